/- TrendReaderCard: one part of the proof that the law answers true for every input, and that its arguments read afterwards as before. No condition. -/
import Derived.Test.YtbccjcdmpiolpaaDoorCRead5
import Derived.Outline
import Derived.Deep.OwnRows
import Derived.Deep.MidRow
import Derived.LoopTactic
import Derived.ProofKit
import Derived.Deep.Slices
import Derived.SizedLaws
import Derived.OpenShut
import Derived.DataReads
import Derived.DataShut
import Derived.SevenTiedAt
import Derived.WalkKit
import Derived.ShutString
import Derived.ChangeOld
import Derived.Below
import Derived.Test.YtbccjcdmpiolpaaDoorCards
import Derived.Test.YtbccjcdmpiolpaaDoorRows
import Derived.Test.YtbccjcdmpiolpaaDoorTie
section
namespace Go.Proofs.YtbccjcdmpiolpaaDoor.T
open Go.RowKit Go.Proofs.YtbccjcdmpiolpaaDoorW.PrintWords Go.Proofs.YtbccjcdmpiolpaaDoorW.PrintLast Go.Proofs.YtbccjcdmpiolpaaDoorW.PrintMore
attribute [local go_sem] max2_int min2_int max_two min_two max_three min_three max_four min_four
set_option linter.unusedVariables false
set_option linter.unusedSimpArgs false
mutual
def trend_Check.j0 : Nat → Bool → Bool → ByteArray → ByteArray → Int → Int → Int → Int → ByteArray → Int → Int → ByteArray → Int → Int → Int → List ByteArray → Int → Int → Int → Int → Option (Int)
 | 0, _, _, _, _, _, _, _, _, _, _, _, _, _, _, _, _, _, _, _, _ => none
 | k + 1, x5, x6, x110000, x110001, x110002, x110003, x110004, x110005, x111000, x111001, x111002, x111003, x111004, x111005, x111006, x111007, x111008, x111009, x111010, x111011 => (lexer_Name.f x110000).bind fun t111 => (if t111 = true then (if x110001.toList = x111000.toList then (if x110002 = 1 then (trend_Check.j1 k x5 x6 false x110000 x110001 x110002 x110003 x110004 x110005) else (if x110002 = 2 then (trend_Check.j1 k x5 x6 false x110000 x110001 x110002 x110003 x110004 x110005) else (trend_Check.j1 k x5 x6 (x110002 != 3) x110000 x110001 x110002 x110003 x110004 x110005))) else (some 3)) else (some 4))
def trend_Check.j1 : Nat → Bool → Bool → Bool → ByteArray → ByteArray → Int → Int → Int → Int → Option (Int)
 | 0, _, _, _, _, _, _, _, _, _ => none
 | k + 1, x5, x6, x49, x110000, x110001, x110002, x110003, x110004, x110005 => if x49 = true then (some 1) else (if x110005 < 1 then (some 6) else (if x110005 > 1024 then (some 6) else (if x5 = true then (if x6 = true then (some 0) else (some 6)) else (some 6))))
end
def trend_Check.f (k : Nat) (a0_0 : ByteArray) (a0_1 : ByteArray) (a0_2 : Int) (a0_3 : Int) (a0_4 : Int) (a0_5 : Int) (a1_0 : ByteArray) (a1_1 : Int) (a1_2 : Int) (a1_3 : ByteArray) (a1_4 : Int) (a1_5 : Int) (a1_6 : Int) (l1_7 : List ByteArray) (a1_8 : Int) (a1_9 : Int) (a1_10 : Int) (a1_11 : Int) : Option (Int) := if a0_2 = 1 then (if a0_3 ≥ 1 then (trend_Check.j0 k (decide (a0_3 ≤ 86400)) (a0_4 == 0) a0_0 a0_1 a0_2 a0_3 a0_4 a0_5 a1_0 a1_1 a1_2 a1_3 a1_4 a1_5 a1_6 l1_7 a1_8 a1_9 a1_10 a1_11) else (trend_Check.j0 k false (a0_4 == 0) a0_0 a0_1 a0_2 a0_3 a0_4 a0_5 a1_0 a1_1 a1_2 a1_3 a1_4 a1_5 a1_6 l1_7 a1_8 a1_9 a1_10 a1_11)) else (if a0_2 = 2 then (if a1_1 = 1 then (if a0_4 ≥ 1 then (trend_Check.j0 k (a0_3 == 0) (decide (a0_4 ≤ 1000000000000)) a0_0 a0_1 a0_2 a0_3 a0_4 a0_5 a1_0 a1_1 a1_2 a1_3 a1_4 a1_5 a1_6 l1_7 a1_8 a1_9 a1_10 a1_11) else (trend_Check.j0 k (a0_3 == 0) false a0_0 a0_1 a0_2 a0_3 a0_4 a0_5 a1_0 a1_1 a1_2 a1_3 a1_4 a1_5 a1_6 l1_7 a1_8 a1_9 a1_10 a1_11)) else (trend_Check.j0 k (a0_3 == 0) (a0_4 == 0) a0_0 a0_1 a0_2 a0_3 a0_4 a0_5 a1_0 a1_1 a1_2 a1_3 a1_4 a1_5 a1_6 l1_7 a1_8 a1_9 a1_10 a1_11)) else (trend_Check.j0 k (a0_3 == 0) (a0_4 == 0) a0_0 a0_1 a0_2 a0_3 a0_4 a0_5 a1_0 a1_1 a1_2 a1_3 a1_4 a1_5 a1_6 l1_7 a1_8 a1_9 a1_10 a1_11))
set_option maxHeartbeats 8000000 in
set_option maxRecDepth 100000 in
theorem trend_Check.calls (k : Nat) (a0_0 : ByteArray) (a0_1 : ByteArray) (a0_2 : Int) (a0_3 : Int) (a0_4 : Int) (a0_5 : Int) (a1_0 : ByteArray) (a1_1 : Int) (a1_2 : Int) (a1_3 : ByteArray) (a1_4 : Int) (a1_5 : Int) (a1_6 : Int) (A1_7 : Option Addr) (c1_7 : Nat) (l1_7 : List ByteArray) (a1_8 : Int) (a1_9 : Int) (a1_10 : Int) (a1_11 : Int) (r : Int) (w : World) (hG : Glob w) (hr1_7 : Kd.C Kd.string w A1_7 l1_7.length l1_7) (hc1_7 : l1_7.length ≤ c1_7) (h : trend_Check.f k a0_0 a0_1 a0_2 a0_3 a0_4 a0_5 a1_0 a1_1 a1_2 a1_3 a1_4 a1_5 a1_6 l1_7 a1_8 a1_9 a1_10 a1_11 = some r) :
  Calls Tryd.prog 17 #[.agg #[.string a0_0, .string a0_1, .int .i64 a0_2, .int .i64 a0_3, .int .i64 a0_4, .int .i64 a0_5], .agg #[.string a1_0, .int .i64 a1_1, .int .i64 a1_2, .string a1_3, .int .i64 a1_4, .int .i64 a1_5, .int .i64 a1_6, .slice A1_7 l1_7.length c1_7, .int .i64 a1_8, .int .i64 a1_9, .int .i64 a1_10, .int .i64 a1_11]] w fun e w' => e = .returned (.int .i64 r) ∧ Below w.heap.size w w' := by
 have hu23 := Tryd.underlying23
 have hu51 := Tryd.underlying51
 have HG := Aside0.mk hG
 clear hG
 have HR1_7 := Aside0.mk hr1_7
 have HC1_7 := Aside0.mk hc1_7
 clear hr1_7 hc1_7
 have HB := Aside0.mk (Below.refl w.heap.size w)
 have H : (if a0_2 = 1 then (if a0_3 ≥ 1 then (trend_Check.j0 k (decide (a0_3 ≤ 86400)) (a0_4 == 0) a0_0 a0_1 a0_2 a0_3 a0_4 a0_5 a1_0 a1_1 a1_2 a1_3 a1_4 a1_5 a1_6 l1_7 a1_8 a1_9 a1_10 a1_11) else (trend_Check.j0 k false (a0_4 == 0) a0_0 a0_1 a0_2 a0_3 a0_4 a0_5 a1_0 a1_1 a1_2 a1_3 a1_4 a1_5 a1_6 l1_7 a1_8 a1_9 a1_10 a1_11)) else (if a0_2 = 2 then (if a1_1 = 1 then (if a0_4 ≥ 1 then (trend_Check.j0 k (a0_3 == 0) (decide (a0_4 ≤ 1000000000000)) a0_0 a0_1 a0_2 a0_3 a0_4 a0_5 a1_0 a1_1 a1_2 a1_3 a1_4 a1_5 a1_6 l1_7 a1_8 a1_9 a1_10 a1_11) else (trend_Check.j0 k (a0_3 == 0) false a0_0 a0_1 a0_2 a0_3 a0_4 a0_5 a1_0 a1_1 a1_2 a1_3 a1_4 a1_5 a1_6 l1_7 a1_8 a1_9 a1_10 a1_11)) else (trend_Check.j0 k (a0_3 == 0) (a0_4 == 0) a0_0 a0_1 a0_2 a0_3 a0_4 a0_5 a1_0 a1_1 a1_2 a1_3 a1_4 a1_5 a1_6 l1_7 a1_8 a1_9 a1_10 a1_11)) else (trend_Check.j0 k (a0_3 == 0) (a0_4 == 0) a0_0 a0_1 a0_2 a0_3 a0_4 a0_5 a1_0 a1_1 a1_2 a1_3 a1_4 a1_5 a1_6 l1_7 a1_8 a1_9 a1_10 a1_11))) = some r := h
 clear h
 have HC3 := Aside0.mk H
 clear H
 go_enter Tryd.func17, Tryd.ntmps17
 go_upto_block 0 with (first | ((with_reducible refine gate_dst (N := 2) rfl ?_); refine box_event ?hg (N := 2) ?hd (cs := #[.string a0_0, .string a0_1, .int .i64 a0_2, .int .i64 a0_3, .int .i64 a0_4, .int .i64 a0_5]) (t := 23) ?hr ?_; (case hd => rfl); (case hg => rfl); (case hr => first | (go_simp; done) | (go_simp; rfl)); intro gb109 hg w4 hbox hb; have n0_ := Aside0.mk (below_step (by repeat (first | (with_reducible first | exact HB.out | apply below_alloc | apply pw_below_drewN | apply below_drew1) | exact HB.out)) hb); have n1_ := Aside0.mk (hbox); have n2_ := Aside0.mk ((by rw [hg]; exact (below_size (by repeat (first | (with_reducible first | exact HB.out | apply below_alloc | apply pw_below_drewN | apply below_drew1) | exact HB.out))) : w.heap.size ≤ gb109)); have n3_ := Aside0.mk ((by rw [hg]; exact (below_size (by repeat (first | (with_reducible first | exact HB.out | apply below_alloc | apply pw_below_drewN | apply below_drew1) | exact HB.out))) : w.heap.size ≤ gb109)); clear HB; have HB := n0_; have BK109 := n1_; have GW109 := n2_; have GE109 := n3_; clear n0_ n1_ n2_ n3_; clear hb hbox hg) | ((with_reducible refine gate_dst (N := 3) rfl ?_); refine box_event ?hg (N := 3) ?hd (cs := #[.string a1_0, .int .i64 a1_1, .int .i64 a1_2, .string a1_3, .int .i64 a1_4, .int .i64 a1_5, .int .i64 a1_6, .slice A1_7 l1_7.length c1_7, .int .i64 a1_8, .int .i64 a1_9, .int .i64 a1_10, .int .i64 a1_11]) (t := 51) ?hr ?_; (case hd => rfl); (case hg => rfl); (case hr => first | (go_simp; done) | (go_simp; rfl)); intro gb110 hg w5 hbox hb; have n0_ := Aside0.mk (blk_below (g := gb109) (o := .cells #[.string a0_0, .string a0_1, .int .i64 a0_2, .int .i64 a0_3, .int .i64 a0_4, .int .i64 a0_5] 23 (0, 0)) (by (with_reducible repeat (first | refine blk_drewN ?_ _ | refine blk_drew ?_ | refine blk_alloc ?_ _)); exact BK109.out) hb); have n1_ := Aside0.mk (below_step (by repeat (first | (with_reducible first | exact HB.out | apply below_alloc | apply pw_below_drewN | apply below_drew1 | refine below_set ?_ GE109.out) | exact HB.out)) hb); have n2_ := Aside0.mk (hbox); have n3_ := Aside0.mk ((by rw [hg]; exact (below_size (by repeat (first | (with_reducible first | exact HB.out | apply below_alloc | apply pw_below_drewN | apply below_drew1 | refine below_set ?_ GE109.out) | exact HB.out))) : w.heap.size ≤ gb110)); have n4_ := Aside0.mk ((by rw [hg]; exact (below_size (by repeat (first | (with_reducible first | exact HB.out | apply below_alloc | apply pw_below_drewN | apply below_drew1 | refine below_set ?_ GE109.out) | exact HB.out))) : w.heap.size ≤ gb110)); have n5_ := Aside0.mk ((by rw [hg]; exact Nat.ne_of_lt (blk_lt (g := gb109) (o := .cells #[.string a0_0, .string a0_1, .int .i64 a0_2, .int .i64 a0_3, .int .i64 a0_4, .int .i64 a0_5] 23 (0, 0)) (by (with_reducible repeat (first | refine blk_drewN ?_ _ | refine blk_drew ?_ | refine blk_alloc ?_ _)); exact BK109.out)) : gb109 ≠ gb110)); have n6_ := Aside0.mk ((by rw [hg]; exact Nat.ne_of_gt (blk_lt (g := gb109) (o := .cells #[.string a0_0, .string a0_1, .int .i64 a0_2, .int .i64 a0_3, .int .i64 a0_4, .int .i64 a0_5] 23 (0, 0)) (by (with_reducible repeat (first | refine blk_drewN ?_ _ | refine blk_drew ?_ | refine blk_alloc ?_ _)); exact BK109.out)) : gb110 ≠ gb109)); clear BK109; clear HB; have BK109 := n0_; have HB := n1_; have BK110 := n2_; have GW110 := n3_; have GE110 := n4_; have NB109_110 := n5_; have NB110_109 := n6_; clear n0_ n1_ n2_ n3_ n4_ n5_ n6_; clear hb hbox hg; have hnb6 := NB109_110.out; have hnc6 := NB110_109.out; have hcz7_0 : w5.cell? ⟨gb109, 0, none⟩ = some (.string a0_0) := (blk_cell BK109.out 0).trans rfl; have hcz7_1 : w5.cell? ⟨gb109, 1, none⟩ = some (.string a0_1) := (blk_cell BK109.out 1).trans rfl; have hcz7_2 : w5.cell? ⟨gb109, 2, none⟩ = some (.int .i64 a0_2) := (blk_cell BK109.out 2).trans rfl; have hcz7_3 : w5.cell? ⟨gb109, 3, none⟩ = some (.int .i64 a0_3) := (blk_cell BK109.out 3).trans rfl; have hcz7_4 : w5.cell? ⟨gb109, 4, none⟩ = some (.int .i64 a0_4) := (blk_cell BK109.out 4).trans rfl; have hcz7_5 : w5.cell? ⟨gb109, 5, none⟩ = some (.int .i64 a0_5) := (blk_cell BK109.out 5).trans rfl; have hfz7_0 := blk_frozen BK109.out 0; have hfz7_1 := blk_frozen BK109.out 1; have hfz7_2 := blk_frozen BK109.out 2; have hfz7_3 := blk_frozen BK109.out 3; have hfz7_4 := blk_frozen BK109.out 4; have hfz7_5 := blk_frozen BK109.out 5))
 repeat (go_quiet (first | ((with_reducible refine gate_dst (N := 2) rfl ?_); refine box_event ?hg (N := 2) ?hd (cs := #[.string a0_0, .string a0_1, .int .i64 a0_2, .int .i64 a0_3, .int .i64 a0_4, .int .i64 a0_5]) (t := 23) ?hr ?_; (case hd => rfl); (case hg => rfl); (case hr => first | (go_simp; done) | (go_simp; rfl)); intro gb109 hg w4 hbox hb; have n0_ := Aside0.mk (below_step (by repeat (first | (with_reducible first | exact HB.out | apply below_alloc | apply pw_below_drewN | apply below_drew1) | exact HB.out)) hb); have n1_ := Aside0.mk (hbox); have n2_ := Aside0.mk ((by rw [hg]; exact (below_size (by repeat (first | (with_reducible first | exact HB.out | apply below_alloc | apply pw_below_drewN | apply below_drew1) | exact HB.out))) : w.heap.size ≤ gb109)); have n3_ := Aside0.mk ((by rw [hg]; exact (below_size (by repeat (first | (with_reducible first | exact HB.out | apply below_alloc | apply pw_below_drewN | apply below_drew1) | exact HB.out))) : w.heap.size ≤ gb109)); clear HB; have HB := n0_; have BK109 := n1_; have GW109 := n2_; have GE109 := n3_; clear n0_ n1_ n2_ n3_; clear hb hbox hg) | ((with_reducible refine gate_dst (N := 3) rfl ?_); refine box_event ?hg (N := 3) ?hd (cs := #[.string a1_0, .int .i64 a1_1, .int .i64 a1_2, .string a1_3, .int .i64 a1_4, .int .i64 a1_5, .int .i64 a1_6, .slice A1_7 l1_7.length c1_7, .int .i64 a1_8, .int .i64 a1_9, .int .i64 a1_10, .int .i64 a1_11]) (t := 51) ?hr ?_; (case hd => rfl); (case hg => rfl); (case hr => first | (go_simp; done) | (go_simp; rfl)); intro gb110 hg w5 hbox hb; have n0_ := Aside0.mk (blk_below (g := gb109) (o := .cells #[.string a0_0, .string a0_1, .int .i64 a0_2, .int .i64 a0_3, .int .i64 a0_4, .int .i64 a0_5] 23 (0, 0)) (by (with_reducible repeat (first | refine blk_drewN ?_ _ | refine blk_drew ?_ | refine blk_alloc ?_ _)); exact BK109.out) hb); have n1_ := Aside0.mk (below_step (by repeat (first | (with_reducible first | exact HB.out | apply below_alloc | apply pw_below_drewN | apply below_drew1 | refine below_set ?_ GE109.out) | exact HB.out)) hb); have n2_ := Aside0.mk (hbox); have n3_ := Aside0.mk ((by rw [hg]; exact (below_size (by repeat (first | (with_reducible first | exact HB.out | apply below_alloc | apply pw_below_drewN | apply below_drew1 | refine below_set ?_ GE109.out) | exact HB.out))) : w.heap.size ≤ gb110)); have n4_ := Aside0.mk ((by rw [hg]; exact (below_size (by repeat (first | (with_reducible first | exact HB.out | apply below_alloc | apply pw_below_drewN | apply below_drew1 | refine below_set ?_ GE109.out) | exact HB.out))) : w.heap.size ≤ gb110)); have n5_ := Aside0.mk ((by rw [hg]; exact Nat.ne_of_lt (blk_lt (g := gb109) (o := .cells #[.string a0_0, .string a0_1, .int .i64 a0_2, .int .i64 a0_3, .int .i64 a0_4, .int .i64 a0_5] 23 (0, 0)) (by (with_reducible repeat (first | refine blk_drewN ?_ _ | refine blk_drew ?_ | refine blk_alloc ?_ _)); exact BK109.out)) : gb109 ≠ gb110)); have n6_ := Aside0.mk ((by rw [hg]; exact Nat.ne_of_gt (blk_lt (g := gb109) (o := .cells #[.string a0_0, .string a0_1, .int .i64 a0_2, .int .i64 a0_3, .int .i64 a0_4, .int .i64 a0_5] 23 (0, 0)) (by (with_reducible repeat (first | refine blk_drewN ?_ _ | refine blk_drew ?_ | refine blk_alloc ?_ _)); exact BK109.out)) : gb110 ≠ gb109)); clear BK109; clear HB; have BK109 := n0_; have HB := n1_; have BK110 := n2_; have GW110 := n3_; have GE110 := n4_; have NB109_110 := n5_; have NB110_109 := n6_; clear n0_ n1_ n2_ n3_ n4_ n5_ n6_; clear hb hbox hg; have hnb6 := NB109_110.out; have hnc6 := NB110_109.out; have hcz7_0 : w5.cell? ⟨gb109, 0, none⟩ = some (.string a0_0) := (blk_cell BK109.out 0).trans rfl; have hcz7_1 : w5.cell? ⟨gb109, 1, none⟩ = some (.string a0_1) := (blk_cell BK109.out 1).trans rfl; have hcz7_2 : w5.cell? ⟨gb109, 2, none⟩ = some (.int .i64 a0_2) := (blk_cell BK109.out 2).trans rfl; have hcz7_3 : w5.cell? ⟨gb109, 3, none⟩ = some (.int .i64 a0_3) := (blk_cell BK109.out 3).trans rfl; have hcz7_4 : w5.cell? ⟨gb109, 4, none⟩ = some (.int .i64 a0_4) := (blk_cell BK109.out 4).trans rfl; have hcz7_5 : w5.cell? ⟨gb109, 5, none⟩ = some (.int .i64 a0_5) := (blk_cell BK109.out 5).trans rfl; have hfz7_0 := blk_frozen BK109.out 0; have hfz7_1 := blk_frozen BK109.out 1; have hfz7_2 := blk_frozen BK109.out 2; have hfz7_3 := blk_frozen BK109.out 3; have hfz7_4 := blk_frozen BK109.out 4; have hfz7_5 := blk_frozen BK109.out 5)); go_upto_block 0 with (first | ((with_reducible refine gate_dst (N := 2) rfl ?_); refine box_event ?hg (N := 2) ?hd (cs := #[.string a0_0, .string a0_1, .int .i64 a0_2, .int .i64 a0_3, .int .i64 a0_4, .int .i64 a0_5]) (t := 23) ?hr ?_; (case hd => rfl); (case hg => rfl); (case hr => first | (go_simp; done) | (go_simp; rfl)); intro gb109 hg w4 hbox hb; have n0_ := Aside0.mk (below_step (by repeat (first | (with_reducible first | exact HB.out | apply below_alloc | apply pw_below_drewN | apply below_drew1) | exact HB.out)) hb); have n1_ := Aside0.mk (hbox); have n2_ := Aside0.mk ((by rw [hg]; exact (below_size (by repeat (first | (with_reducible first | exact HB.out | apply below_alloc | apply pw_below_drewN | apply below_drew1) | exact HB.out))) : w.heap.size ≤ gb109)); have n3_ := Aside0.mk ((by rw [hg]; exact (below_size (by repeat (first | (with_reducible first | exact HB.out | apply below_alloc | apply pw_below_drewN | apply below_drew1) | exact HB.out))) : w.heap.size ≤ gb109)); clear HB; have HB := n0_; have BK109 := n1_; have GW109 := n2_; have GE109 := n3_; clear n0_ n1_ n2_ n3_; clear hb hbox hg) | ((with_reducible refine gate_dst (N := 3) rfl ?_); refine box_event ?hg (N := 3) ?hd (cs := #[.string a1_0, .int .i64 a1_1, .int .i64 a1_2, .string a1_3, .int .i64 a1_4, .int .i64 a1_5, .int .i64 a1_6, .slice A1_7 l1_7.length c1_7, .int .i64 a1_8, .int .i64 a1_9, .int .i64 a1_10, .int .i64 a1_11]) (t := 51) ?hr ?_; (case hd => rfl); (case hg => rfl); (case hr => first | (go_simp; done) | (go_simp; rfl)); intro gb110 hg w5 hbox hb; have n0_ := Aside0.mk (blk_below (g := gb109) (o := .cells #[.string a0_0, .string a0_1, .int .i64 a0_2, .int .i64 a0_3, .int .i64 a0_4, .int .i64 a0_5] 23 (0, 0)) (by (with_reducible repeat (first | refine blk_drewN ?_ _ | refine blk_drew ?_ | refine blk_alloc ?_ _)); exact BK109.out) hb); have n1_ := Aside0.mk (below_step (by repeat (first | (with_reducible first | exact HB.out | apply below_alloc | apply pw_below_drewN | apply below_drew1 | refine below_set ?_ GE109.out) | exact HB.out)) hb); have n2_ := Aside0.mk (hbox); have n3_ := Aside0.mk ((by rw [hg]; exact (below_size (by repeat (first | (with_reducible first | exact HB.out | apply below_alloc | apply pw_below_drewN | apply below_drew1 | refine below_set ?_ GE109.out) | exact HB.out))) : w.heap.size ≤ gb110)); have n4_ := Aside0.mk ((by rw [hg]; exact (below_size (by repeat (first | (with_reducible first | exact HB.out | apply below_alloc | apply pw_below_drewN | apply below_drew1 | refine below_set ?_ GE109.out) | exact HB.out))) : w.heap.size ≤ gb110)); have n5_ := Aside0.mk ((by rw [hg]; exact Nat.ne_of_lt (blk_lt (g := gb109) (o := .cells #[.string a0_0, .string a0_1, .int .i64 a0_2, .int .i64 a0_3, .int .i64 a0_4, .int .i64 a0_5] 23 (0, 0)) (by (with_reducible repeat (first | refine blk_drewN ?_ _ | refine blk_drew ?_ | refine blk_alloc ?_ _)); exact BK109.out)) : gb109 ≠ gb110)); have n6_ := Aside0.mk ((by rw [hg]; exact Nat.ne_of_gt (blk_lt (g := gb109) (o := .cells #[.string a0_0, .string a0_1, .int .i64 a0_2, .int .i64 a0_3, .int .i64 a0_4, .int .i64 a0_5] 23 (0, 0)) (by (with_reducible repeat (first | refine blk_drewN ?_ _ | refine blk_drew ?_ | refine blk_alloc ?_ _)); exact BK109.out)) : gb110 ≠ gb109)); clear BK109; clear HB; have BK109 := n0_; have HB := n1_; have BK110 := n2_; have GW110 := n3_; have GE110 := n4_; have NB109_110 := n5_; have NB110_109 := n6_; clear n0_ n1_ n2_ n3_ n4_ n5_ n6_; clear hb hbox hg; have hnb6 := NB109_110.out; have hnc6 := NB110_109.out; have hcz7_0 : w5.cell? ⟨gb109, 0, none⟩ = some (.string a0_0) := (blk_cell BK109.out 0).trans rfl; have hcz7_1 : w5.cell? ⟨gb109, 1, none⟩ = some (.string a0_1) := (blk_cell BK109.out 1).trans rfl; have hcz7_2 : w5.cell? ⟨gb109, 2, none⟩ = some (.int .i64 a0_2) := (blk_cell BK109.out 2).trans rfl; have hcz7_3 : w5.cell? ⟨gb109, 3, none⟩ = some (.int .i64 a0_3) := (blk_cell BK109.out 3).trans rfl; have hcz7_4 : w5.cell? ⟨gb109, 4, none⟩ = some (.int .i64 a0_4) := (blk_cell BK109.out 4).trans rfl; have hcz7_5 : w5.cell? ⟨gb109, 5, none⟩ = some (.int .i64 a0_5) := (blk_cell BK109.out 5).trans rfl; have hfz7_0 := blk_frozen BK109.out 0; have hfz7_1 := blk_frozen BK109.out 1; have hfz7_2 := blk_frozen BK109.out 2; have hfz7_3 := blk_frozen BK109.out 3; have hfz7_4 := blk_frozen BK109.out 4; have hfz7_5 := blk_frozen BK109.out 5)))
 (try simp only [Act.put, List.setIfInBounds_toArray, List.set_cons_zero, List.set_cons_succ])
 go_cut [5, 6] (fun v5 v6 wc => ∃ (kq : Nat) (x5_2 : Bool) (x6_2 : Bool), v5 = .bool x5_2 ∧ v6 = .bool x6_2 ∧ Aside0 (trend_Check.j0 kq x5_2 x6_2 a0_0 a0_1 a0_2 a0_3 a0_4 a0_5 a1_0 a1_1 a1_2 a1_3 a1_4 a1_5 a1_6 l1_7 a1_8 a1_9 a1_10 a1_11 = some r) ∧ Aside0 (kq ≤ k) ∧ Aside0 (wc.heap[gb109]? = some (.cells #[.string a0_0, .string a0_1, .int .i64 a0_2, .int .i64 a0_3, .int .i64 a0_4, .int .i64 a0_5] 23 (0, 0))) ∧ Aside0 (wc.heap[gb110]? = some (.cells #[.string a1_0, .int .i64 a1_1, .int .i64 a1_2, .string a1_3, .int .i64 a1_4, .int .i64 a1_5, .int .i64 a1_6, (.slice A1_7 l1_7.length c1_7), .int .i64 a1_8, .int .i64 a1_9, .int .i64 a1_10, .int .i64 a1_11] 51 (0, 0))) ∧ Aside0 (Below w.heap.size w wc))
 case first =>
  have H := HC3.out
  clear HC3
  by_cases c8 : a0_2 = 1
  ·rw [if_pos c8] at H
   have c8b0 : (a0_2 == 1) = true := beq_iff_eq.mpr c8
   have c8b1 : (a0_2 != 1) = false := bne_eq_false_iff_eq.mpr c8
   clear c8
   (first | rw [c8b0] | (simp only [i64_w, i32_w]; rw [c8b0]) | skip)
   by_cases c9 : a0_3 ≥ 1
   ·rw [if_pos c9] at H
    have c9b0 : decide (1 ≤ a0_3) = true := decide_eq_true c9
    clear c9
    have H' := Aside0.mk H
    clear H
    have hnb10 := NB109_110.out
    have hnc10 := NB110_109.out
    have hcz11_0 : w5.cell? ⟨gb109, 0, none⟩ = some (.string a0_0) := (blk_cell BK109.out 0).trans rfl
    have hcz11_1 : w5.cell? ⟨gb109, 1, none⟩ = some (.string a0_1) := (blk_cell BK109.out 1).trans rfl
    have hcz11_2 : w5.cell? ⟨gb109, 2, none⟩ = some (.int .i64 a0_2) := (blk_cell BK109.out 2).trans rfl
    have hcz11_3 : w5.cell? ⟨gb109, 3, none⟩ = some (.int .i64 a0_3) := (blk_cell BK109.out 3).trans rfl
    have hcz11_4 : w5.cell? ⟨gb109, 4, none⟩ = some (.int .i64 a0_4) := (blk_cell BK109.out 4).trans rfl
    have hcz11_5 : w5.cell? ⟨gb109, 5, none⟩ = some (.int .i64 a0_5) := (blk_cell BK109.out 5).trans rfl
    have hfz11_0 := blk_frozen BK109.out 0
    have hfz11_1 := blk_frozen BK109.out 1
    have hfz11_2 := blk_frozen BK109.out 2
    have hfz11_3 := blk_frozen BK109.out 3
    have hfz11_4 := blk_frozen BK109.out 4
    have hfz11_5 := blk_frozen BK109.out 5
    go_wp2
    repeat (go_quiet (fail); try go_wp2)
    go_meet
    case rel => exact ⟨_, (decide (a0_3 ≤ 86400)), ((a0_4 == 0)), (by first | rfl | (simp; done) | (simp [*]; done)), (by first | rfl | (simp; done) | (simp [*]; done)), H', ⟨by first | omega | exact Nat.le_refl _⟩, ⟨by (with_reducible repeat (first | refine blk_drewN ?_ _ | refine blk_drew ?_ | refine blk_alloc ?_ _)); exact BK109.out⟩, ⟨by (with_reducible repeat (first | refine blk_drewN ?_ _ | refine blk_drew ?_ | refine blk_alloc ?_ _)); exact BK110.out⟩, ⟨by repeat (first | (with_reducible first | exact HB.out | apply below_alloc | apply pw_below_drewN | apply below_drew1 | refine below_set ?_ GE109.out | refine below_set ?_ GE110.out) | exact HB.out)⟩⟩
   ·rw [if_neg c9] at H
    have c9b0 : decide (1 ≤ a0_3) = false := decide_eq_false c9
    clear c9
    have H' := Aside0.mk H
    clear H
    have hnb12 := NB109_110.out
    have hnc12 := NB110_109.out
    have hcz13_0 : w5.cell? ⟨gb109, 0, none⟩ = some (.string a0_0) := (blk_cell BK109.out 0).trans rfl
    have hcz13_1 : w5.cell? ⟨gb109, 1, none⟩ = some (.string a0_1) := (blk_cell BK109.out 1).trans rfl
    have hcz13_2 : w5.cell? ⟨gb109, 2, none⟩ = some (.int .i64 a0_2) := (blk_cell BK109.out 2).trans rfl
    have hcz13_3 : w5.cell? ⟨gb109, 3, none⟩ = some (.int .i64 a0_3) := (blk_cell BK109.out 3).trans rfl
    have hcz13_4 : w5.cell? ⟨gb109, 4, none⟩ = some (.int .i64 a0_4) := (blk_cell BK109.out 4).trans rfl
    have hcz13_5 : w5.cell? ⟨gb109, 5, none⟩ = some (.int .i64 a0_5) := (blk_cell BK109.out 5).trans rfl
    have hfz13_0 := blk_frozen BK109.out 0
    have hfz13_1 := blk_frozen BK109.out 1
    have hfz13_2 := blk_frozen BK109.out 2
    have hfz13_3 := blk_frozen BK109.out 3
    have hfz13_4 := blk_frozen BK109.out 4
    have hfz13_5 := blk_frozen BK109.out 5
    go_wp2
    repeat (go_quiet (fail); try go_wp2)
    go_meet
    case rel => exact ⟨_, (false), ((a0_4 == 0)), (by first | rfl | (simp; done) | (simp [*]; done)), (by first | rfl | (simp; done) | (simp [*]; done)), H', ⟨by first | omega | exact Nat.le_refl _⟩, ⟨by (with_reducible repeat (first | refine blk_drewN ?_ _ | refine blk_drew ?_ | refine blk_alloc ?_ _)); exact BK109.out⟩, ⟨by (with_reducible repeat (first | refine blk_drewN ?_ _ | refine blk_drew ?_ | refine blk_alloc ?_ _)); exact BK110.out⟩, ⟨by repeat (first | (with_reducible first | exact HB.out | apply below_alloc | apply pw_below_drewN | apply below_drew1 | refine below_set ?_ GE109.out | refine below_set ?_ GE110.out) | exact HB.out)⟩⟩
  ·rw [if_neg c8] at H
   have c8b0 : (a0_2 == 1) = false := beq_eq_false_iff_ne.mpr c8
   have c8b1 : (a0_2 != 1) = true := bne_iff_ne.mpr c8
   (first | rw [c8b0] | (simp only [i64_w, i32_w]; rw [c8b0]) | skip)
   by_cases c14 : a0_2 = 2
   ·rw [if_pos c14] at H
    have c14b0 : (a0_2 == 2) = true := beq_iff_eq.mpr c14
    have c14b1 : (a0_2 != 2) = false := bne_eq_false_iff_eq.mpr c14
    clear c14
    by_cases c15 : a1_1 = 1
    ·rw [if_pos c15] at H
     have c15b0 : (a1_1 == 1) = true := beq_iff_eq.mpr c15
     have c15b1 : (a1_1 != 1) = false := bne_eq_false_iff_eq.mpr c15
     clear c15
     by_cases c16 : a0_4 ≥ 1
     ·rw [if_pos c16] at H
      have c16b0 : decide (1 ≤ a0_4) = true := decide_eq_true c16
      clear c16
      have H' := Aside0.mk H
      clear H
      have hnb17 := NB110_109.out
      have hnc17 := NB109_110.out
      have hcz18_0 : w5.cell? ⟨gb110, 0, none⟩ = some (.string a1_0) := (blk_cell BK110.out 0).trans rfl
      have hcz18_1 : w5.cell? ⟨gb110, 1, none⟩ = some (.int .i64 a1_1) := (blk_cell BK110.out 1).trans rfl
      have hcz18_2 : w5.cell? ⟨gb110, 2, none⟩ = some (.int .i64 a1_2) := (blk_cell BK110.out 2).trans rfl
      have hcz18_3 : w5.cell? ⟨gb110, 3, none⟩ = some (.string a1_3) := (blk_cell BK110.out 3).trans rfl
      have hcz18_4 : w5.cell? ⟨gb110, 4, none⟩ = some (.int .i64 a1_4) := (blk_cell BK110.out 4).trans rfl
      have hcz18_5 : w5.cell? ⟨gb110, 5, none⟩ = some (.int .i64 a1_5) := (blk_cell BK110.out 5).trans rfl
      have hcz18_6 : w5.cell? ⟨gb110, 6, none⟩ = some (.int .i64 a1_6) := (blk_cell BK110.out 6).trans rfl
      have hcz18_7 : w5.cell? ⟨gb110, 7, none⟩ = some (.slice A1_7 l1_7.length c1_7) := (blk_cell BK110.out 7).trans rfl
      have hcz18_8 : w5.cell? ⟨gb110, 8, none⟩ = some (.int .i64 a1_8) := (blk_cell BK110.out 8).trans rfl
      have hcz18_9 : w5.cell? ⟨gb110, 9, none⟩ = some (.int .i64 a1_9) := (blk_cell BK110.out 9).trans rfl
      have hcz18_10 : w5.cell? ⟨gb110, 10, none⟩ = some (.int .i64 a1_10) := (blk_cell BK110.out 10).trans rfl
      have hcz18_11 : w5.cell? ⟨gb110, 11, none⟩ = some (.int .i64 a1_11) := (blk_cell BK110.out 11).trans rfl
      have hfz18_0 := blk_frozen BK110.out 0
      have hfz18_1 := blk_frozen BK110.out 1
      have hfz18_2 := blk_frozen BK110.out 2
      have hfz18_3 := blk_frozen BK110.out 3
      have hfz18_4 := blk_frozen BK110.out 4
      have hfz18_5 := blk_frozen BK110.out 5
      have hfz18_6 := blk_frozen BK110.out 6
      have hfz18_7 := blk_frozen BK110.out 7
      have hfz18_8 := blk_frozen BK110.out 8
      have hfz18_9 := blk_frozen BK110.out 9
      have hfz18_10 := blk_frozen BK110.out 10
      have hfz18_11 := blk_frozen BK110.out 11
      have hcz19_0 : w5.cell? ⟨gb109, 0, none⟩ = some (.string a0_0) := (blk_cell BK109.out 0).trans rfl
      have hcz19_1 : w5.cell? ⟨gb109, 1, none⟩ = some (.string a0_1) := (blk_cell BK109.out 1).trans rfl
      have hcz19_2 : w5.cell? ⟨gb109, 2, none⟩ = some (.int .i64 a0_2) := (blk_cell BK109.out 2).trans rfl
      have hcz19_3 : w5.cell? ⟨gb109, 3, none⟩ = some (.int .i64 a0_3) := (blk_cell BK109.out 3).trans rfl
      have hcz19_4 : w5.cell? ⟨gb109, 4, none⟩ = some (.int .i64 a0_4) := (blk_cell BK109.out 4).trans rfl
      have hcz19_5 : w5.cell? ⟨gb109, 5, none⟩ = some (.int .i64 a0_5) := (blk_cell BK109.out 5).trans rfl
      have hfz19_0 := blk_frozen BK109.out 0
      have hfz19_1 := blk_frozen BK109.out 1
      have hfz19_2 := blk_frozen BK109.out 2
      have hfz19_3 := blk_frozen BK109.out 3
      have hfz19_4 := blk_frozen BK109.out 4
      have hfz19_5 := blk_frozen BK109.out 5
      go_wp2
      repeat (go_quiet (fail); try go_wp2)
      go_meet
      case rel => exact ⟨_, ((a0_3 == 0)), (decide (a0_4 ≤ 1000000000000)), (by first | rfl | (simp; done) | (simp [*]; done)), (by first | rfl | (simp; done) | (simp [*]; done)), H', ⟨by first | omega | exact Nat.le_refl _⟩, ⟨by (with_reducible repeat (first | refine blk_drewN ?_ _ | refine blk_drew ?_ | refine blk_alloc ?_ _)); exact BK109.out⟩, ⟨by (with_reducible repeat (first | refine blk_drewN ?_ _ | refine blk_drew ?_ | refine blk_alloc ?_ _)); exact BK110.out⟩, ⟨by repeat (first | (with_reducible first | exact HB.out | apply below_alloc | apply pw_below_drewN | apply below_drew1 | refine below_set ?_ GE109.out | refine below_set ?_ GE110.out) | exact HB.out)⟩⟩
     ·rw [if_neg c16] at H
      have c16b0 : decide (1 ≤ a0_4) = false := decide_eq_false c16
      clear c16
      have H' := Aside0.mk H
      clear H
      have hnb20 := NB110_109.out
      have hnc20 := NB109_110.out
      have hcz21_0 : w5.cell? ⟨gb110, 0, none⟩ = some (.string a1_0) := (blk_cell BK110.out 0).trans rfl
      have hcz21_1 : w5.cell? ⟨gb110, 1, none⟩ = some (.int .i64 a1_1) := (blk_cell BK110.out 1).trans rfl
      have hcz21_2 : w5.cell? ⟨gb110, 2, none⟩ = some (.int .i64 a1_2) := (blk_cell BK110.out 2).trans rfl
      have hcz21_3 : w5.cell? ⟨gb110, 3, none⟩ = some (.string a1_3) := (blk_cell BK110.out 3).trans rfl
      have hcz21_4 : w5.cell? ⟨gb110, 4, none⟩ = some (.int .i64 a1_4) := (blk_cell BK110.out 4).trans rfl
      have hcz21_5 : w5.cell? ⟨gb110, 5, none⟩ = some (.int .i64 a1_5) := (blk_cell BK110.out 5).trans rfl
      have hcz21_6 : w5.cell? ⟨gb110, 6, none⟩ = some (.int .i64 a1_6) := (blk_cell BK110.out 6).trans rfl
      have hcz21_7 : w5.cell? ⟨gb110, 7, none⟩ = some (.slice A1_7 l1_7.length c1_7) := (blk_cell BK110.out 7).trans rfl
      have hcz21_8 : w5.cell? ⟨gb110, 8, none⟩ = some (.int .i64 a1_8) := (blk_cell BK110.out 8).trans rfl
      have hcz21_9 : w5.cell? ⟨gb110, 9, none⟩ = some (.int .i64 a1_9) := (blk_cell BK110.out 9).trans rfl
      have hcz21_10 : w5.cell? ⟨gb110, 10, none⟩ = some (.int .i64 a1_10) := (blk_cell BK110.out 10).trans rfl
      have hcz21_11 : w5.cell? ⟨gb110, 11, none⟩ = some (.int .i64 a1_11) := (blk_cell BK110.out 11).trans rfl
      have hfz21_0 := blk_frozen BK110.out 0
      have hfz21_1 := blk_frozen BK110.out 1
      have hfz21_2 := blk_frozen BK110.out 2
      have hfz21_3 := blk_frozen BK110.out 3
      have hfz21_4 := blk_frozen BK110.out 4
      have hfz21_5 := blk_frozen BK110.out 5
      have hfz21_6 := blk_frozen BK110.out 6
      have hfz21_7 := blk_frozen BK110.out 7
      have hfz21_8 := blk_frozen BK110.out 8
      have hfz21_9 := blk_frozen BK110.out 9
      have hfz21_10 := blk_frozen BK110.out 10
      have hfz21_11 := blk_frozen BK110.out 11
      have hcz22_0 : w5.cell? ⟨gb109, 0, none⟩ = some (.string a0_0) := (blk_cell BK109.out 0).trans rfl
      have hcz22_1 : w5.cell? ⟨gb109, 1, none⟩ = some (.string a0_1) := (blk_cell BK109.out 1).trans rfl
      have hcz22_2 : w5.cell? ⟨gb109, 2, none⟩ = some (.int .i64 a0_2) := (blk_cell BK109.out 2).trans rfl
      have hcz22_3 : w5.cell? ⟨gb109, 3, none⟩ = some (.int .i64 a0_3) := (blk_cell BK109.out 3).trans rfl
      have hcz22_4 : w5.cell? ⟨gb109, 4, none⟩ = some (.int .i64 a0_4) := (blk_cell BK109.out 4).trans rfl
      have hcz22_5 : w5.cell? ⟨gb109, 5, none⟩ = some (.int .i64 a0_5) := (blk_cell BK109.out 5).trans rfl
      have hfz22_0 := blk_frozen BK109.out 0
      have hfz22_1 := blk_frozen BK109.out 1
      have hfz22_2 := blk_frozen BK109.out 2
      have hfz22_3 := blk_frozen BK109.out 3
      have hfz22_4 := blk_frozen BK109.out 4
      have hfz22_5 := blk_frozen BK109.out 5
      go_wp2
      repeat (go_quiet (fail); try go_wp2)
      go_meet
      case rel => exact ⟨_, ((a0_3 == 0)), (false), (by first | rfl | (simp; done) | (simp [*]; done)), (by first | rfl | (simp; done) | (simp [*]; done)), H', ⟨by first | omega | exact Nat.le_refl _⟩, ⟨by (with_reducible repeat (first | refine blk_drewN ?_ _ | refine blk_drew ?_ | refine blk_alloc ?_ _)); exact BK109.out⟩, ⟨by (with_reducible repeat (first | refine blk_drewN ?_ _ | refine blk_drew ?_ | refine blk_alloc ?_ _)); exact BK110.out⟩, ⟨by repeat (first | (with_reducible first | exact HB.out | apply below_alloc | apply pw_below_drewN | apply below_drew1 | refine below_set ?_ GE109.out | refine below_set ?_ GE110.out) | exact HB.out)⟩⟩
    ·rw [if_neg c15] at H
     have c15b0 : (a1_1 == 1) = false := beq_eq_false_iff_ne.mpr c15
     have c15b1 : (a1_1 != 1) = true := bne_iff_ne.mpr c15
     have H' := Aside0.mk H
     clear H
     have hnb23 := NB110_109.out
     have hnc23 := NB109_110.out
     have hcz24_0 : w5.cell? ⟨gb110, 0, none⟩ = some (.string a1_0) := (blk_cell BK110.out 0).trans rfl
     have hcz24_1 : w5.cell? ⟨gb110, 1, none⟩ = some (.int .i64 a1_1) := (blk_cell BK110.out 1).trans rfl
     have hcz24_2 : w5.cell? ⟨gb110, 2, none⟩ = some (.int .i64 a1_2) := (blk_cell BK110.out 2).trans rfl
     have hcz24_3 : w5.cell? ⟨gb110, 3, none⟩ = some (.string a1_3) := (blk_cell BK110.out 3).trans rfl
     have hcz24_4 : w5.cell? ⟨gb110, 4, none⟩ = some (.int .i64 a1_4) := (blk_cell BK110.out 4).trans rfl
     have hcz24_5 : w5.cell? ⟨gb110, 5, none⟩ = some (.int .i64 a1_5) := (blk_cell BK110.out 5).trans rfl
     have hcz24_6 : w5.cell? ⟨gb110, 6, none⟩ = some (.int .i64 a1_6) := (blk_cell BK110.out 6).trans rfl
     have hcz24_7 : w5.cell? ⟨gb110, 7, none⟩ = some (.slice A1_7 l1_7.length c1_7) := (blk_cell BK110.out 7).trans rfl
     have hcz24_8 : w5.cell? ⟨gb110, 8, none⟩ = some (.int .i64 a1_8) := (blk_cell BK110.out 8).trans rfl
     have hcz24_9 : w5.cell? ⟨gb110, 9, none⟩ = some (.int .i64 a1_9) := (blk_cell BK110.out 9).trans rfl
     have hcz24_10 : w5.cell? ⟨gb110, 10, none⟩ = some (.int .i64 a1_10) := (blk_cell BK110.out 10).trans rfl
     have hcz24_11 : w5.cell? ⟨gb110, 11, none⟩ = some (.int .i64 a1_11) := (blk_cell BK110.out 11).trans rfl
     have hfz24_0 := blk_frozen BK110.out 0
     have hfz24_1 := blk_frozen BK110.out 1
     have hfz24_2 := blk_frozen BK110.out 2
     have hfz24_3 := blk_frozen BK110.out 3
     have hfz24_4 := blk_frozen BK110.out 4
     have hfz24_5 := blk_frozen BK110.out 5
     have hfz24_6 := blk_frozen BK110.out 6
     have hfz24_7 := blk_frozen BK110.out 7
     have hfz24_8 := blk_frozen BK110.out 8
     have hfz24_9 := blk_frozen BK110.out 9
     have hfz24_10 := blk_frozen BK110.out 10
     have hfz24_11 := blk_frozen BK110.out 11
     go_wp2
     repeat (go_quiet (fail); try go_wp2)
     go_meet
     case rel => exact ⟨_, ((a0_3 == 0)), ((a0_4 == 0)), (by first | rfl | (simp; done) | (simp [*]; done)), (by first | rfl | (simp; done) | (simp [*]; done)), H', ⟨by first | omega | exact Nat.le_refl _⟩, ⟨by (with_reducible repeat (first | refine blk_drewN ?_ _ | refine blk_drew ?_ | refine blk_alloc ?_ _)); exact BK109.out⟩, ⟨by (with_reducible repeat (first | refine blk_drewN ?_ _ | refine blk_drew ?_ | refine blk_alloc ?_ _)); exact BK110.out⟩, ⟨by repeat (first | (with_reducible first | exact HB.out | apply below_alloc | apply pw_below_drewN | apply below_drew1 | refine below_set ?_ GE109.out | refine below_set ?_ GE110.out) | exact HB.out)⟩⟩
   ·rw [if_neg c14] at H
    have c14b0 : (a0_2 == 2) = false := beq_eq_false_iff_ne.mpr c14
    have c14b1 : (a0_2 != 2) = true := bne_iff_ne.mpr c14
    have H' := Aside0.mk H
    clear H
    go_wp2
    repeat (go_quiet (fail); try go_wp2)
    go_meet
    case rel => exact ⟨_, ((a0_3 == 0)), ((a0_4 == 0)), (by first | rfl | (simp; done) | (simp [*]; done)), (by first | rfl | (simp; done) | (simp [*]; done)), H', ⟨by first | omega | exact Nat.le_refl _⟩, ⟨by (with_reducible repeat (first | refine blk_drewN ?_ _ | refine blk_drew ?_ | refine blk_alloc ?_ _)); exact BK109.out⟩, ⟨by (with_reducible repeat (first | refine blk_drewN ?_ _ | refine blk_drew ?_ | refine blk_alloc ?_ _)); exact BK110.out⟩, ⟨by repeat (first | (with_reducible first | exact HB.out | apply below_alloc | apply pw_below_drewN | apply below_drew1 | refine below_set ?_ GE109.out | refine below_set ?_ GE110.out) | exact HB.out)⟩⟩
 case rest =>
  clear HC3
  try clear c1
  try clear c2
  try clear p2
  try clear c6
  try clear c8
  try clear c8b0
  try clear c8b1
  try clear c9
  try clear c9b0
  try clear c10
  try clear c12
  try clear c14
  try clear c14b0
  try clear c14b1
  try clear c15
  try clear c15b0
  try clear c15b1
  try clear c16
  try clear c16b0
  try clear c17
  try clear c20
  try clear c23
  try clear hcz11_0
  try clear hcz11_1
  try clear hcz11_2
  try clear hcz11_3
  try clear hcz11_4
  try clear hcz11_5
  try clear hcz13_0
  try clear hcz13_1
  try clear hcz13_2
  try clear hcz13_3
  try clear hcz13_4
  try clear hcz13_5
  try clear hcz18_0
  try clear hcz18_1
  try clear hcz18_10
  try clear hcz18_11
  try clear hcz18_2
  try clear hcz18_3
  try clear hcz18_4
  try clear hcz18_5
  try clear hcz18_6
  try clear hcz18_7
  try clear hcz18_8
  try clear hcz18_9
  try clear hcz19_0
  try clear hcz19_1
  try clear hcz19_2
  try clear hcz19_3
  try clear hcz19_4
  try clear hcz19_5
  try clear hcz21_0
  try clear hcz21_1
  try clear hcz21_10
  try clear hcz21_11
  try clear hcz21_2
  try clear hcz21_3
  try clear hcz21_4
  try clear hcz21_5
  try clear hcz21_6
  try clear hcz21_7
  try clear hcz21_8
  try clear hcz21_9
  try clear hcz22_0
  try clear hcz22_1
  try clear hcz22_2
  try clear hcz22_3
  try clear hcz22_4
  try clear hcz22_5
  try clear hcz24_0
  try clear hcz24_1
  try clear hcz24_10
  try clear hcz24_11
  try clear hcz24_2
  try clear hcz24_3
  try clear hcz24_4
  try clear hcz24_5
  try clear hcz24_6
  try clear hcz24_7
  try clear hcz24_8
  try clear hcz24_9
  try clear hcz7_0
  try clear hcz7_1
  try clear hcz7_2
  try clear hcz7_3
  try clear hcz7_4
  try clear hcz7_5
  try clear hfz11_0
  try clear hfz11_1
  try clear hfz11_2
  try clear hfz11_3
  try clear hfz11_4
  try clear hfz11_5
  try clear hfz13_0
  try clear hfz13_1
  try clear hfz13_2
  try clear hfz13_3
  try clear hfz13_4
  try clear hfz13_5
  try clear hfz18_0
  try clear hfz18_1
  try clear hfz18_10
  try clear hfz18_11
  try clear hfz18_2
  try clear hfz18_3
  try clear hfz18_4
  try clear hfz18_5
  try clear hfz18_6
  try clear hfz18_7
  try clear hfz18_8
  try clear hfz18_9
  try clear hfz19_0
  try clear hfz19_1
  try clear hfz19_2
  try clear hfz19_3
  try clear hfz19_4
  try clear hfz19_5
  try clear hfz21_0
  try clear hfz21_1
  try clear hfz21_10
  try clear hfz21_11
  try clear hfz21_2
  try clear hfz21_3
  try clear hfz21_4
  try clear hfz21_5
  try clear hfz21_6
  try clear hfz21_7
  try clear hfz21_8
  try clear hfz21_9
  try clear hfz22_0
  try clear hfz22_1
  try clear hfz22_2
  try clear hfz22_3
  try clear hfz22_4
  try clear hfz22_5
  try clear hfz24_0
  try clear hfz24_1
  try clear hfz24_10
  try clear hfz24_11
  try clear hfz24_2
  try clear hfz24_3
  try clear hfz24_4
  try clear hfz24_5
  try clear hfz24_6
  try clear hfz24_7
  try clear hfz24_8
  try clear hfz24_9
  try clear hfz7_0
  try clear hfz7_1
  try clear hfz7_2
  try clear hfz7_3
  try clear hfz7_4
  try clear hfz7_5
  obtain ⟨kq, x5_2, x6_2, rfl, rfl, HA, HJ2, BK109, BK110, HB⟩ := hcut
  cases kq with
  | zero => exact absurd HA.out (by simp [trend_Check.j0])
  | succ kj2 =>
   have H := HA.out
   clear HA
   simp only [trend_Check.j0] at H
   replace H := Option.bind_eq_some_iff.mp H
   obtain ⟨t111, A250, H⟩ := H
   replace H : (if t111 = true then (if a0_1.toList = a1_0.toList then (if a0_2 = 1 then (trend_Check.j1 kj2 x5_2 x6_2 false a0_0 a0_1 a0_2 a0_3 a0_4 a0_5) else (if a0_2 = 2 then (trend_Check.j1 kj2 x5_2 x6_2 false a0_0 a0_1 a0_2 a0_3 a0_4 a0_5) else (trend_Check.j1 kj2 x5_2 x6_2 (a0_2 != 3) a0_0 a0_1 a0_2 a0_3 a0_4 a0_5))) else (some 3)) else (some 4)) = some r := H
   have A25 := Aside0.mk A250
   clear A250
   by_cases c26 : t111 = true
   ·subst c26
    have H1 : (if a0_1.toList = a1_0.toList then (if a0_2 = 1 then (trend_Check.j1 kj2 x5_2 x6_2 false a0_0 a0_1 a0_2 a0_3 a0_4 a0_5) else (if a0_2 = 2 then (trend_Check.j1 kj2 x5_2 x6_2 false a0_0 a0_1 a0_2 a0_3 a0_4 a0_5) else (trend_Check.j1 kj2 x5_2 x6_2 (a0_2 != 3) a0_0 a0_1 a0_2 a0_3 a0_4 a0_5))) else (some 3)) = some r := by rw [if_pos rfl] at H; exact H
    clear H
    have H := H1
    clear H1
    by_cases c27 : a0_1.toList = a1_0.toList
    ·rw [if_pos c27] at H
     have c27b0 : (a0_1.toList == a1_0.toList) = true := beq_iff_eq.mpr c27
     have c27b1 : (a0_1.toList != a1_0.toList) = false := bne_eq_false_iff_eq.mpr c27
     clear c27
     have HC28 := Aside0.mk H
     clear H
     have hnb29 := NB109_110.out
     have hnc29 := NB110_109.out
     have hcz30_0 : wc.cell? ⟨gb109, 0, none⟩ = some (.string a0_0) := (blk_cell BK109.out 0).trans rfl
     have hcz30_1 : wc.cell? ⟨gb109, 1, none⟩ = some (.string a0_1) := (blk_cell BK109.out 1).trans rfl
     have hcz30_2 : wc.cell? ⟨gb109, 2, none⟩ = some (.int .i64 a0_2) := (blk_cell BK109.out 2).trans rfl
     have hcz30_3 : wc.cell? ⟨gb109, 3, none⟩ = some (.int .i64 a0_3) := (blk_cell BK109.out 3).trans rfl
     have hcz30_4 : wc.cell? ⟨gb109, 4, none⟩ = some (.int .i64 a0_4) := (blk_cell BK109.out 4).trans rfl
     have hcz30_5 : wc.cell? ⟨gb109, 5, none⟩ = some (.int .i64 a0_5) := (blk_cell BK109.out 5).trans rfl
     have hfz30_0 := blk_frozen BK109.out 0
     have hfz30_1 := blk_frozen BK109.out 1
     have hfz30_2 := blk_frozen BK109.out 2
     have hfz30_3 := blk_frozen BK109.out 3
     have hfz30_4 := blk_frozen BK109.out 4
     have hfz30_5 := blk_frozen BK109.out 5
     go_upto_region 12 with (first | (go_at_call 29; (with_reducible refine (lexer_Name.calls a0_0 true _ ?side99  A25.out).mono ?_); (case side99 => first | exact HG.out | exact Glob.below HG.out (by repeat (first | (with_reducible first | exact HB.out | apply below_alloc | apply pw_below_drewN | apply below_drew1 | refine below_set ?_ GE109.out | refine below_set ?_ GE110.out) | exact HB.out))); rintro e w31 ⟨rfl, hb⟩; have n0_ := Aside0.mk (blk_below (g := gb109) (o := .cells #[.string a0_0, .string a0_1, .int .i64 a0_2, .int .i64 a0_3, .int .i64 a0_4, .int .i64 a0_5] 23 (0, 0)) (by (with_reducible repeat (first | refine blk_drewN ?_ _ | refine blk_drew ?_ | refine blk_alloc ?_ _)); exact BK109.out) hb); have n1_ := Aside0.mk (blk_below (g := gb110) (o := .cells #[.string a1_0, .int .i64 a1_1, .int .i64 a1_2, .string a1_3, .int .i64 a1_4, .int .i64 a1_5, .int .i64 a1_6, .slice A1_7 l1_7.length c1_7, .int .i64 a1_8, .int .i64 a1_9, .int .i64 a1_10, .int .i64 a1_11] 51 (0, 0)) (by (with_reducible repeat (first | refine blk_drewN ?_ _ | refine blk_drew ?_ | refine blk_alloc ?_ _)); exact BK110.out) hb); have n2_ := Aside0.mk (below_step (by repeat (first | (with_reducible first | exact HB.out | apply below_alloc | apply pw_below_drewN | apply below_drew1 | refine below_set ?_ GE109.out | refine below_set ?_ GE110.out) | exact HB.out)) hb); clear BK109; clear BK110; clear HB; have BK109 := n0_; have BK110 := n1_; have HB := n2_; clear n0_ n1_ n2_; (try clear hb); (try clear hb2); (try clear hk); (try clear hi); have hcz32_0 : w31.cell? ⟨gb109, 0, none⟩ = some (.string a0_0) := (blk_cell BK109.out 0).trans rfl; have hcz32_1 : w31.cell? ⟨gb109, 1, none⟩ = some (.string a0_1) := (blk_cell BK109.out 1).trans rfl; have hcz32_2 : w31.cell? ⟨gb109, 2, none⟩ = some (.int .i64 a0_2) := (blk_cell BK109.out 2).trans rfl; have hcz32_3 : w31.cell? ⟨gb109, 3, none⟩ = some (.int .i64 a0_3) := (blk_cell BK109.out 3).trans rfl; have hcz32_4 : w31.cell? ⟨gb109, 4, none⟩ = some (.int .i64 a0_4) := (blk_cell BK109.out 4).trans rfl; have hcz32_5 : w31.cell? ⟨gb109, 5, none⟩ = some (.int .i64 a0_5) := (blk_cell BK109.out 5).trans rfl; have hfz32_0 := blk_frozen BK109.out 0; have hfz32_1 := blk_frozen BK109.out 1; have hfz32_2 := blk_frozen BK109.out 2; have hfz32_3 := blk_frozen BK109.out 3; have hfz32_4 := blk_frozen BK109.out 4; have hfz32_5 := blk_frozen BK109.out 5; have hcz33_0 : w31.cell? ⟨gb110, 0, none⟩ = some (.string a1_0) := (blk_cell BK110.out 0).trans rfl; have hcz33_1 : w31.cell? ⟨gb110, 1, none⟩ = some (.int .i64 a1_1) := (blk_cell BK110.out 1).trans rfl; have hcz33_2 : w31.cell? ⟨gb110, 2, none⟩ = some (.int .i64 a1_2) := (blk_cell BK110.out 2).trans rfl; have hcz33_3 : w31.cell? ⟨gb110, 3, none⟩ = some (.string a1_3) := (blk_cell BK110.out 3).trans rfl; have hcz33_4 : w31.cell? ⟨gb110, 4, none⟩ = some (.int .i64 a1_4) := (blk_cell BK110.out 4).trans rfl; have hcz33_5 : w31.cell? ⟨gb110, 5, none⟩ = some (.int .i64 a1_5) := (blk_cell BK110.out 5).trans rfl; have hcz33_6 : w31.cell? ⟨gb110, 6, none⟩ = some (.int .i64 a1_6) := (blk_cell BK110.out 6).trans rfl; have hcz33_7 : w31.cell? ⟨gb110, 7, none⟩ = some (.slice A1_7 l1_7.length c1_7) := (blk_cell BK110.out 7).trans rfl; have hcz33_8 : w31.cell? ⟨gb110, 8, none⟩ = some (.int .i64 a1_8) := (blk_cell BK110.out 8).trans rfl; have hcz33_9 : w31.cell? ⟨gb110, 9, none⟩ = some (.int .i64 a1_9) := (blk_cell BK110.out 9).trans rfl; have hcz33_10 : w31.cell? ⟨gb110, 10, none⟩ = some (.int .i64 a1_10) := (blk_cell BK110.out 10).trans rfl; have hcz33_11 : w31.cell? ⟨gb110, 11, none⟩ = some (.int .i64 a1_11) := (blk_cell BK110.out 11).trans rfl; have hfz33_0 := blk_frozen BK110.out 0; have hfz33_1 := blk_frozen BK110.out 1; have hfz33_2 := blk_frozen BK110.out 2; have hfz33_3 := blk_frozen BK110.out 3; have hfz33_4 := blk_frozen BK110.out 4; have hfz33_5 := blk_frozen BK110.out 5; have hfz33_6 := blk_frozen BK110.out 6; have hfz33_7 := blk_frozen BK110.out 7; have hfz33_8 := blk_frozen BK110.out 8; have hfz33_9 := blk_frozen BK110.out 9; have hfz33_10 := blk_frozen BK110.out 10; have hfz33_11 := blk_frozen BK110.out 11))
     repeat (go_quiet (first | (go_at_call 29; (with_reducible refine (lexer_Name.calls a0_0 true _ ?side99  A25.out).mono ?_); (case side99 => first | exact HG.out | exact Glob.below HG.out (by repeat (first | (with_reducible first | exact HB.out | apply below_alloc | apply pw_below_drewN | apply below_drew1 | refine below_set ?_ GE109.out | refine below_set ?_ GE110.out) | exact HB.out))); rintro e w31 ⟨rfl, hb⟩; have n0_ := Aside0.mk (blk_below (g := gb109) (o := .cells #[.string a0_0, .string a0_1, .int .i64 a0_2, .int .i64 a0_3, .int .i64 a0_4, .int .i64 a0_5] 23 (0, 0)) (by (with_reducible repeat (first | refine blk_drewN ?_ _ | refine blk_drew ?_ | refine blk_alloc ?_ _)); exact BK109.out) hb); have n1_ := Aside0.mk (blk_below (g := gb110) (o := .cells #[.string a1_0, .int .i64 a1_1, .int .i64 a1_2, .string a1_3, .int .i64 a1_4, .int .i64 a1_5, .int .i64 a1_6, .slice A1_7 l1_7.length c1_7, .int .i64 a1_8, .int .i64 a1_9, .int .i64 a1_10, .int .i64 a1_11] 51 (0, 0)) (by (with_reducible repeat (first | refine blk_drewN ?_ _ | refine blk_drew ?_ | refine blk_alloc ?_ _)); exact BK110.out) hb); have n2_ := Aside0.mk (below_step (by repeat (first | (with_reducible first | exact HB.out | apply below_alloc | apply pw_below_drewN | apply below_drew1 | refine below_set ?_ GE109.out | refine below_set ?_ GE110.out) | exact HB.out)) hb); clear BK109; clear BK110; clear HB; have BK109 := n0_; have BK110 := n1_; have HB := n2_; clear n0_ n1_ n2_; (try clear hb); (try clear hb2); (try clear hk); (try clear hi); have hcz32_0 : w31.cell? ⟨gb109, 0, none⟩ = some (.string a0_0) := (blk_cell BK109.out 0).trans rfl; have hcz32_1 : w31.cell? ⟨gb109, 1, none⟩ = some (.string a0_1) := (blk_cell BK109.out 1).trans rfl; have hcz32_2 : w31.cell? ⟨gb109, 2, none⟩ = some (.int .i64 a0_2) := (blk_cell BK109.out 2).trans rfl; have hcz32_3 : w31.cell? ⟨gb109, 3, none⟩ = some (.int .i64 a0_3) := (blk_cell BK109.out 3).trans rfl; have hcz32_4 : w31.cell? ⟨gb109, 4, none⟩ = some (.int .i64 a0_4) := (blk_cell BK109.out 4).trans rfl; have hcz32_5 : w31.cell? ⟨gb109, 5, none⟩ = some (.int .i64 a0_5) := (blk_cell BK109.out 5).trans rfl; have hfz32_0 := blk_frozen BK109.out 0; have hfz32_1 := blk_frozen BK109.out 1; have hfz32_2 := blk_frozen BK109.out 2; have hfz32_3 := blk_frozen BK109.out 3; have hfz32_4 := blk_frozen BK109.out 4; have hfz32_5 := blk_frozen BK109.out 5; have hcz33_0 : w31.cell? ⟨gb110, 0, none⟩ = some (.string a1_0) := (blk_cell BK110.out 0).trans rfl; have hcz33_1 : w31.cell? ⟨gb110, 1, none⟩ = some (.int .i64 a1_1) := (blk_cell BK110.out 1).trans rfl; have hcz33_2 : w31.cell? ⟨gb110, 2, none⟩ = some (.int .i64 a1_2) := (blk_cell BK110.out 2).trans rfl; have hcz33_3 : w31.cell? ⟨gb110, 3, none⟩ = some (.string a1_3) := (blk_cell BK110.out 3).trans rfl; have hcz33_4 : w31.cell? ⟨gb110, 4, none⟩ = some (.int .i64 a1_4) := (blk_cell BK110.out 4).trans rfl; have hcz33_5 : w31.cell? ⟨gb110, 5, none⟩ = some (.int .i64 a1_5) := (blk_cell BK110.out 5).trans rfl; have hcz33_6 : w31.cell? ⟨gb110, 6, none⟩ = some (.int .i64 a1_6) := (blk_cell BK110.out 6).trans rfl; have hcz33_7 : w31.cell? ⟨gb110, 7, none⟩ = some (.slice A1_7 l1_7.length c1_7) := (blk_cell BK110.out 7).trans rfl; have hcz33_8 : w31.cell? ⟨gb110, 8, none⟩ = some (.int .i64 a1_8) := (blk_cell BK110.out 8).trans rfl; have hcz33_9 : w31.cell? ⟨gb110, 9, none⟩ = some (.int .i64 a1_9) := (blk_cell BK110.out 9).trans rfl; have hcz33_10 : w31.cell? ⟨gb110, 10, none⟩ = some (.int .i64 a1_10) := (blk_cell BK110.out 10).trans rfl; have hcz33_11 : w31.cell? ⟨gb110, 11, none⟩ = some (.int .i64 a1_11) := (blk_cell BK110.out 11).trans rfl; have hfz33_0 := blk_frozen BK110.out 0; have hfz33_1 := blk_frozen BK110.out 1; have hfz33_2 := blk_frozen BK110.out 2; have hfz33_3 := blk_frozen BK110.out 3; have hfz33_4 := blk_frozen BK110.out 4; have hfz33_5 := blk_frozen BK110.out 5; have hfz33_6 := blk_frozen BK110.out 6; have hfz33_7 := blk_frozen BK110.out 7; have hfz33_8 := blk_frozen BK110.out 8; have hfz33_9 := blk_frozen BK110.out 9; have hfz33_10 := blk_frozen BK110.out 10; have hfz33_11 := blk_frozen BK110.out 11)); go_upto_region 12 with (first | (go_at_call 29; (with_reducible refine (lexer_Name.calls a0_0 true _ ?side99  A25.out).mono ?_); (case side99 => first | exact HG.out | exact Glob.below HG.out (by repeat (first | (with_reducible first | exact HB.out | apply below_alloc | apply pw_below_drewN | apply below_drew1 | refine below_set ?_ GE109.out | refine below_set ?_ GE110.out) | exact HB.out))); rintro e w31 ⟨rfl, hb⟩; have n0_ := Aside0.mk (blk_below (g := gb109) (o := .cells #[.string a0_0, .string a0_1, .int .i64 a0_2, .int .i64 a0_3, .int .i64 a0_4, .int .i64 a0_5] 23 (0, 0)) (by (with_reducible repeat (first | refine blk_drewN ?_ _ | refine blk_drew ?_ | refine blk_alloc ?_ _)); exact BK109.out) hb); have n1_ := Aside0.mk (blk_below (g := gb110) (o := .cells #[.string a1_0, .int .i64 a1_1, .int .i64 a1_2, .string a1_3, .int .i64 a1_4, .int .i64 a1_5, .int .i64 a1_6, .slice A1_7 l1_7.length c1_7, .int .i64 a1_8, .int .i64 a1_9, .int .i64 a1_10, .int .i64 a1_11] 51 (0, 0)) (by (with_reducible repeat (first | refine blk_drewN ?_ _ | refine blk_drew ?_ | refine blk_alloc ?_ _)); exact BK110.out) hb); have n2_ := Aside0.mk (below_step (by repeat (first | (with_reducible first | exact HB.out | apply below_alloc | apply pw_below_drewN | apply below_drew1 | refine below_set ?_ GE109.out | refine below_set ?_ GE110.out) | exact HB.out)) hb); clear BK109; clear BK110; clear HB; have BK109 := n0_; have BK110 := n1_; have HB := n2_; clear n0_ n1_ n2_; (try clear hb); (try clear hb2); (try clear hk); (try clear hi); have hcz32_0 : w31.cell? ⟨gb109, 0, none⟩ = some (.string a0_0) := (blk_cell BK109.out 0).trans rfl; have hcz32_1 : w31.cell? ⟨gb109, 1, none⟩ = some (.string a0_1) := (blk_cell BK109.out 1).trans rfl; have hcz32_2 : w31.cell? ⟨gb109, 2, none⟩ = some (.int .i64 a0_2) := (blk_cell BK109.out 2).trans rfl; have hcz32_3 : w31.cell? ⟨gb109, 3, none⟩ = some (.int .i64 a0_3) := (blk_cell BK109.out 3).trans rfl; have hcz32_4 : w31.cell? ⟨gb109, 4, none⟩ = some (.int .i64 a0_4) := (blk_cell BK109.out 4).trans rfl; have hcz32_5 : w31.cell? ⟨gb109, 5, none⟩ = some (.int .i64 a0_5) := (blk_cell BK109.out 5).trans rfl; have hfz32_0 := blk_frozen BK109.out 0; have hfz32_1 := blk_frozen BK109.out 1; have hfz32_2 := blk_frozen BK109.out 2; have hfz32_3 := blk_frozen BK109.out 3; have hfz32_4 := blk_frozen BK109.out 4; have hfz32_5 := blk_frozen BK109.out 5; have hcz33_0 : w31.cell? ⟨gb110, 0, none⟩ = some (.string a1_0) := (blk_cell BK110.out 0).trans rfl; have hcz33_1 : w31.cell? ⟨gb110, 1, none⟩ = some (.int .i64 a1_1) := (blk_cell BK110.out 1).trans rfl; have hcz33_2 : w31.cell? ⟨gb110, 2, none⟩ = some (.int .i64 a1_2) := (blk_cell BK110.out 2).trans rfl; have hcz33_3 : w31.cell? ⟨gb110, 3, none⟩ = some (.string a1_3) := (blk_cell BK110.out 3).trans rfl; have hcz33_4 : w31.cell? ⟨gb110, 4, none⟩ = some (.int .i64 a1_4) := (blk_cell BK110.out 4).trans rfl; have hcz33_5 : w31.cell? ⟨gb110, 5, none⟩ = some (.int .i64 a1_5) := (blk_cell BK110.out 5).trans rfl; have hcz33_6 : w31.cell? ⟨gb110, 6, none⟩ = some (.int .i64 a1_6) := (blk_cell BK110.out 6).trans rfl; have hcz33_7 : w31.cell? ⟨gb110, 7, none⟩ = some (.slice A1_7 l1_7.length c1_7) := (blk_cell BK110.out 7).trans rfl; have hcz33_8 : w31.cell? ⟨gb110, 8, none⟩ = some (.int .i64 a1_8) := (blk_cell BK110.out 8).trans rfl; have hcz33_9 : w31.cell? ⟨gb110, 9, none⟩ = some (.int .i64 a1_9) := (blk_cell BK110.out 9).trans rfl; have hcz33_10 : w31.cell? ⟨gb110, 10, none⟩ = some (.int .i64 a1_10) := (blk_cell BK110.out 10).trans rfl; have hcz33_11 : w31.cell? ⟨gb110, 11, none⟩ = some (.int .i64 a1_11) := (blk_cell BK110.out 11).trans rfl; have hfz33_0 := blk_frozen BK110.out 0; have hfz33_1 := blk_frozen BK110.out 1; have hfz33_2 := blk_frozen BK110.out 2; have hfz33_3 := blk_frozen BK110.out 3; have hfz33_4 := blk_frozen BK110.out 4; have hfz33_5 := blk_frozen BK110.out 5; have hfz33_6 := blk_frozen BK110.out 6; have hfz33_7 := blk_frozen BK110.out 7; have hfz33_8 := blk_frozen BK110.out 8; have hfz33_9 := blk_frozen BK110.out 9; have hfz33_10 := blk_frozen BK110.out 10; have hfz33_11 := blk_frozen BK110.out 11)))
     (try simp only [Act.put, List.setIfInBounds_toArray, List.set_cons_zero, List.set_cons_succ])
     go_cut [49] (fun v49 wc => ∃ (kq : Nat) (x49_27 : Bool), v49 = .bool x49_27 ∧ Aside0 (trend_Check.j1 kq x5_2 x6_2 x49_27 a0_0 a0_1 a0_2 a0_3 a0_4 a0_5 = some r) ∧ Aside0 (kq ≤ kj2) ∧ Aside0 (wc.heap[gb109]? = some (.cells #[.string a0_0, .string a0_1, .int .i64 a0_2, .int .i64 a0_3, .int .i64 a0_4, .int .i64 a0_5] 23 (0, 0))) ∧ Aside0 (wc.heap[gb110]? = some (.cells #[.string a1_0, .int .i64 a1_1, .int .i64 a1_2, .string a1_3, .int .i64 a1_4, .int .i64 a1_5, .int .i64 a1_6, (.slice A1_7 l1_7.length c1_7), .int .i64 a1_8, .int .i64 a1_9, .int .i64 a1_10, .int .i64 a1_11] 51 (0, 0))) ∧ Aside0 (Below w.heap.size w wc))
     case first =>
      have H := HC28.out
      clear HC28
      by_cases c34 : a0_2 = 1
      ·rw [if_pos c34] at H
       have c34b0 : (a0_2 == 1) = true := beq_iff_eq.mpr c34
       have c34b1 : (a0_2 != 1) = false := bne_eq_false_iff_eq.mpr c34
       clear c34
       (first | rw [c34b0] | (simp only [i64_w, i32_w]; rw [c34b0]) | skip)
       have H' := Aside0.mk H
       clear H
       have hnb35 := NB109_110.out
       have hnc35 := NB110_109.out
       have hcz36_0 : w31.cell? ⟨gb109, 0, none⟩ = some (.string a0_0) := (blk_cell BK109.out 0).trans rfl
       have hcz36_1 : w31.cell? ⟨gb109, 1, none⟩ = some (.string a0_1) := (blk_cell BK109.out 1).trans rfl
       have hcz36_2 : w31.cell? ⟨gb109, 2, none⟩ = some (.int .i64 a0_2) := (blk_cell BK109.out 2).trans rfl
       have hcz36_3 : w31.cell? ⟨gb109, 3, none⟩ = some (.int .i64 a0_3) := (blk_cell BK109.out 3).trans rfl
       have hcz36_4 : w31.cell? ⟨gb109, 4, none⟩ = some (.int .i64 a0_4) := (blk_cell BK109.out 4).trans rfl
       have hcz36_5 : w31.cell? ⟨gb109, 5, none⟩ = some (.int .i64 a0_5) := (blk_cell BK109.out 5).trans rfl
       have hfz36_0 := blk_frozen BK109.out 0
       have hfz36_1 := blk_frozen BK109.out 1
       have hfz36_2 := blk_frozen BK109.out 2
       have hfz36_3 := blk_frozen BK109.out 3
       have hfz36_4 := blk_frozen BK109.out 4
       have hfz36_5 := blk_frozen BK109.out 5
       go_wp2
       repeat (go_quiet (fail); try go_wp2)
       go_meet
       case rel => exact ⟨_, (false), (by first | rfl | (simp; done) | (simp [*]; done)), H', ⟨by have := HJ2.out; first | omega | exact Nat.le_refl _⟩, ⟨by (with_reducible repeat (first | refine blk_drewN ?_ _ | refine blk_drew ?_ | refine blk_alloc ?_ _)); exact BK109.out⟩, ⟨by (with_reducible repeat (first | refine blk_drewN ?_ _ | refine blk_drew ?_ | refine blk_alloc ?_ _)); exact BK110.out⟩, ⟨by repeat (first | (with_reducible first | exact HB.out | apply below_alloc | apply pw_below_drewN | apply below_drew1 | refine below_set ?_ GE109.out | refine below_set ?_ GE110.out) | exact HB.out)⟩⟩
      ·rw [if_neg c34] at H
       have c34b0 : (a0_2 == 1) = false := beq_eq_false_iff_ne.mpr c34
       have c34b1 : (a0_2 != 1) = true := bne_iff_ne.mpr c34
       (first | rw [c34b0] | (simp only [i64_w, i32_w]; rw [c34b0]) | skip)
       by_cases c37 : a0_2 = 2
       ·rw [if_pos c37] at H
        have c37b0 : (a0_2 == 2) = true := beq_iff_eq.mpr c37
        have c37b1 : (a0_2 != 2) = false := bne_eq_false_iff_eq.mpr c37
        clear c37
        have H' := Aside0.mk H
        clear H
        have hnb38 := NB109_110.out
        have hnc38 := NB110_109.out
        have hcz39_0 : w31.cell? ⟨gb109, 0, none⟩ = some (.string a0_0) := (blk_cell BK109.out 0).trans rfl
        have hcz39_1 : w31.cell? ⟨gb109, 1, none⟩ = some (.string a0_1) := (blk_cell BK109.out 1).trans rfl
        have hcz39_2 : w31.cell? ⟨gb109, 2, none⟩ = some (.int .i64 a0_2) := (blk_cell BK109.out 2).trans rfl
        have hcz39_3 : w31.cell? ⟨gb109, 3, none⟩ = some (.int .i64 a0_3) := (blk_cell BK109.out 3).trans rfl
        have hcz39_4 : w31.cell? ⟨gb109, 4, none⟩ = some (.int .i64 a0_4) := (blk_cell BK109.out 4).trans rfl
        have hcz39_5 : w31.cell? ⟨gb109, 5, none⟩ = some (.int .i64 a0_5) := (blk_cell BK109.out 5).trans rfl
        have hfz39_0 := blk_frozen BK109.out 0
        have hfz39_1 := blk_frozen BK109.out 1
        have hfz39_2 := blk_frozen BK109.out 2
        have hfz39_3 := blk_frozen BK109.out 3
        have hfz39_4 := blk_frozen BK109.out 4
        have hfz39_5 := blk_frozen BK109.out 5
        go_wp2
        repeat (go_quiet (fail); try go_wp2)
        go_meet
        case rel => exact ⟨_, (false), (by first | rfl | (simp; done) | (simp [*]; done)), H', ⟨by have := HJ2.out; first | omega | exact Nat.le_refl _⟩, ⟨by (with_reducible repeat (first | refine blk_drewN ?_ _ | refine blk_drew ?_ | refine blk_alloc ?_ _)); exact BK109.out⟩, ⟨by (with_reducible repeat (first | refine blk_drewN ?_ _ | refine blk_drew ?_ | refine blk_alloc ?_ _)); exact BK110.out⟩, ⟨by repeat (first | (with_reducible first | exact HB.out | apply below_alloc | apply pw_below_drewN | apply below_drew1 | refine below_set ?_ GE109.out | refine below_set ?_ GE110.out) | exact HB.out)⟩⟩
       ·rw [if_neg c37] at H
        have c37b0 : (a0_2 == 2) = false := beq_eq_false_iff_ne.mpr c37
        have c37b1 : (a0_2 != 2) = true := bne_iff_ne.mpr c37
        have H' := Aside0.mk H
        clear H
        have hnb40 := NB109_110.out
        have hnc40 := NB110_109.out
        have hcz41_0 : w31.cell? ⟨gb109, 0, none⟩ = some (.string a0_0) := (blk_cell BK109.out 0).trans rfl
        have hcz41_1 : w31.cell? ⟨gb109, 1, none⟩ = some (.string a0_1) := (blk_cell BK109.out 1).trans rfl
        have hcz41_2 : w31.cell? ⟨gb109, 2, none⟩ = some (.int .i64 a0_2) := (blk_cell BK109.out 2).trans rfl
        have hcz41_3 : w31.cell? ⟨gb109, 3, none⟩ = some (.int .i64 a0_3) := (blk_cell BK109.out 3).trans rfl
        have hcz41_4 : w31.cell? ⟨gb109, 4, none⟩ = some (.int .i64 a0_4) := (blk_cell BK109.out 4).trans rfl
        have hcz41_5 : w31.cell? ⟨gb109, 5, none⟩ = some (.int .i64 a0_5) := (blk_cell BK109.out 5).trans rfl
        have hfz41_0 := blk_frozen BK109.out 0
        have hfz41_1 := blk_frozen BK109.out 1
        have hfz41_2 := blk_frozen BK109.out 2
        have hfz41_3 := blk_frozen BK109.out 3
        have hfz41_4 := blk_frozen BK109.out 4
        have hfz41_5 := blk_frozen BK109.out 5
        go_wp2
        repeat (go_quiet (fail); try go_wp2)
        go_meet
        case rel => exact ⟨_, ((a0_2 != 3)), (by first | rfl | (simp; done) | (simp [*]; done)), H', ⟨by have := HJ2.out; first | omega | exact Nat.le_refl _⟩, ⟨by (with_reducible repeat (first | refine blk_drewN ?_ _ | refine blk_drew ?_ | refine blk_alloc ?_ _)); exact BK109.out⟩, ⟨by (with_reducible repeat (first | refine blk_drewN ?_ _ | refine blk_drew ?_ | refine blk_alloc ?_ _)); exact BK110.out⟩, ⟨by repeat (first | (with_reducible first | exact HB.out | apply below_alloc | apply pw_below_drewN | apply below_drew1 | refine below_set ?_ GE109.out | refine below_set ?_ GE110.out) | exact HB.out)⟩⟩
     case rest =>
      clear HC28
      try clear c1
      try clear c2
      try clear p2
      try clear c3
      try clear c4
      try clear c6
      try clear c8
      try clear c8b0
      try clear c8b1
      try clear c9
      try clear c9b0
      try clear c10
      try clear c12
      try clear c14
      try clear c14b0
      try clear c14b1
      try clear c15
      try clear c15b0
      try clear c15b1
      try clear c16
      try clear c16b0
      try clear c17
      try clear c20
      try clear c23
      try clear c26
      try clear c27
      try clear c27b0
      try clear c27b1
      try clear c29
      try clear c34
      try clear c34b0
      try clear c34b1
      try clear c35
      try clear c37
      try clear c37b0
      try clear c37b1
      try clear c38
      try clear c40
      try clear hcz11_0
      try clear hcz11_1
      try clear hcz11_2
      try clear hcz11_3
      try clear hcz11_4
      try clear hcz11_5
      try clear hcz13_0
      try clear hcz13_1
      try clear hcz13_2
      try clear hcz13_3
      try clear hcz13_4
      try clear hcz13_5
      try clear hcz18_0
      try clear hcz18_1
      try clear hcz18_10
      try clear hcz18_11
      try clear hcz18_2
      try clear hcz18_3
      try clear hcz18_4
      try clear hcz18_5
      try clear hcz18_6
      try clear hcz18_7
      try clear hcz18_8
      try clear hcz18_9
      try clear hcz19_0
      try clear hcz19_1
      try clear hcz19_2
      try clear hcz19_3
      try clear hcz19_4
      try clear hcz19_5
      try clear hcz21_0
      try clear hcz21_1
      try clear hcz21_10
      try clear hcz21_11
      try clear hcz21_2
      try clear hcz21_3
      try clear hcz21_4
      try clear hcz21_5
      try clear hcz21_6
      try clear hcz21_7
      try clear hcz21_8
      try clear hcz21_9
      try clear hcz22_0
      try clear hcz22_1
      try clear hcz22_2
      try clear hcz22_3
      try clear hcz22_4
      try clear hcz22_5
      try clear hcz24_0
      try clear hcz24_1
      try clear hcz24_10
      try clear hcz24_11
      try clear hcz24_2
      try clear hcz24_3
      try clear hcz24_4
      try clear hcz24_5
      try clear hcz24_6
      try clear hcz24_7
      try clear hcz24_8
      try clear hcz24_9
      try clear hcz30_0
      try clear hcz30_1
      try clear hcz30_2
      try clear hcz30_3
      try clear hcz30_4
      try clear hcz30_5
      try clear hcz32_0
      try clear hcz32_1
      try clear hcz32_2
      try clear hcz32_3
      try clear hcz32_4
      try clear hcz32_5
      try clear hcz33_0
      try clear hcz33_1
      try clear hcz33_10
      try clear hcz33_11
      try clear hcz33_2
      try clear hcz33_3
      try clear hcz33_4
      try clear hcz33_5
      try clear hcz33_6
      try clear hcz33_7
      try clear hcz33_8
      try clear hcz33_9
      try clear hcz36_0
      try clear hcz36_1
      try clear hcz36_2
      try clear hcz36_3
      try clear hcz36_4
      try clear hcz36_5
      try clear hcz39_0
      try clear hcz39_1
      try clear hcz39_2
      try clear hcz39_3
      try clear hcz39_4
      try clear hcz39_5
      try clear hcz41_0
      try clear hcz41_1
      try clear hcz41_2
      try clear hcz41_3
      try clear hcz41_4
      try clear hcz41_5
      try clear hcz7_0
      try clear hcz7_1
      try clear hcz7_2
      try clear hcz7_3
      try clear hcz7_4
      try clear hcz7_5
      try clear hfz11_0
      try clear hfz11_1
      try clear hfz11_2
      try clear hfz11_3
      try clear hfz11_4
      try clear hfz11_5
      try clear hfz13_0
      try clear hfz13_1
      try clear hfz13_2
      try clear hfz13_3
      try clear hfz13_4
      try clear hfz13_5
      try clear hfz18_0
      try clear hfz18_1
      try clear hfz18_10
      try clear hfz18_11
      try clear hfz18_2
      try clear hfz18_3
      try clear hfz18_4
      try clear hfz18_5
      try clear hfz18_6
      try clear hfz18_7
      try clear hfz18_8
      try clear hfz18_9
      try clear hfz19_0
      try clear hfz19_1
      try clear hfz19_2
      try clear hfz19_3
      try clear hfz19_4
      try clear hfz19_5
      try clear hfz21_0
      try clear hfz21_1
      try clear hfz21_10
      try clear hfz21_11
      try clear hfz21_2
      try clear hfz21_3
      try clear hfz21_4
      try clear hfz21_5
      try clear hfz21_6
      try clear hfz21_7
      try clear hfz21_8
      try clear hfz21_9
      try clear hfz22_0
      try clear hfz22_1
      try clear hfz22_2
      try clear hfz22_3
      try clear hfz22_4
      try clear hfz22_5
      try clear hfz24_0
      try clear hfz24_1
      try clear hfz24_10
      try clear hfz24_11
      try clear hfz24_2
      try clear hfz24_3
      try clear hfz24_4
      try clear hfz24_5
      try clear hfz24_6
      try clear hfz24_7
      try clear hfz24_8
      try clear hfz24_9
      try clear hfz30_0
      try clear hfz30_1
      try clear hfz30_2
      try clear hfz30_3
      try clear hfz30_4
      try clear hfz30_5
      try clear hfz32_0
      try clear hfz32_1
      try clear hfz32_2
      try clear hfz32_3
      try clear hfz32_4
      try clear hfz32_5
      try clear hfz33_0
      try clear hfz33_1
      try clear hfz33_10
      try clear hfz33_11
      try clear hfz33_2
      try clear hfz33_3
      try clear hfz33_4
      try clear hfz33_5
      try clear hfz33_6
      try clear hfz33_7
      try clear hfz33_8
      try clear hfz33_9
      try clear hfz36_0
      try clear hfz36_1
      try clear hfz36_2
      try clear hfz36_3
      try clear hfz36_4
      try clear hfz36_5
      try clear hfz39_0
      try clear hfz39_1
      try clear hfz39_2
      try clear hfz39_3
      try clear hfz39_4
      try clear hfz39_5
      try clear hfz41_0
      try clear hfz41_1
      try clear hfz41_2
      try clear hfz41_3
      try clear hfz41_4
      try clear hfz41_5
      try clear hfz7_0
      try clear hfz7_1
      try clear hfz7_2
      try clear hfz7_3
      try clear hfz7_4
      try clear hfz7_5
      try clear p2
      obtain ⟨kq, x49_27, rfl, HA, HJ27, BK109, BK110, HB⟩ := hcut
      cases kq with
      | zero => exact absurd HA.out (by simp [trend_Check.j1])
      | succ kj27 =>
       have H := HA.out
       clear HA
       simp only [trend_Check.j1] at H
       by_cases c42 : x49_27 = true
       ·subst c42
        have H1 : (some 1) = some r := by rw [if_pos rfl] at H; exact H
        clear H
        have H := H1
        clear H1
        obtain rfl := Option.some.inj H
        go_wp2
        repeat (go_quiet (fail); try go_wp2)
        go_ret
        exact ⟨by first | rfl | (simp [errW_none, errW_some] <;> rfl) | (simp [*, errW_none, errW_some] <;> rfl), by repeat (first | (with_reducible first | exact HB.out | apply below_alloc | apply pw_below_drewN | apply below_drew1 | refine below_set ?_ GE109.out | refine below_set ?_ GE110.out) | exact HB.out)⟩
       ·replace c42 := Bool.eq_false_iff.mpr c42
        subst c42
        have H1 : (if a0_5 < 1 then (some 6) else (if a0_5 > 1024 then (some 6) else (if x5_2 = true then (if x6_2 = true then (some 0) else (some 6)) else (some 6)))) = some r := by rw [if_neg (show ¬ (false = true) by decide)] at H; exact H
        clear H
        have H := H1
        clear H1
        by_cases c43 : a0_5 < 1
        ·rw [if_pos c43] at H
         have c43b0 : decide (a0_5 < 1) = true := decide_eq_true c43
         clear c43
         obtain rfl := Option.some.inj H
         have hnb44 := NB109_110.out
         have hnc44 := NB110_109.out
         have hcz45_0 : wc.cell? ⟨gb109, 0, none⟩ = some (.string a0_0) := (blk_cell BK109.out 0).trans rfl
         have hcz45_1 : wc.cell? ⟨gb109, 1, none⟩ = some (.string a0_1) := (blk_cell BK109.out 1).trans rfl
         have hcz45_2 : wc.cell? ⟨gb109, 2, none⟩ = some (.int .i64 a0_2) := (blk_cell BK109.out 2).trans rfl
         have hcz45_3 : wc.cell? ⟨gb109, 3, none⟩ = some (.int .i64 a0_3) := (blk_cell BK109.out 3).trans rfl
         have hcz45_4 : wc.cell? ⟨gb109, 4, none⟩ = some (.int .i64 a0_4) := (blk_cell BK109.out 4).trans rfl
         have hcz45_5 : wc.cell? ⟨gb109, 5, none⟩ = some (.int .i64 a0_5) := (blk_cell BK109.out 5).trans rfl
         have hfz45_0 := blk_frozen BK109.out 0
         have hfz45_1 := blk_frozen BK109.out 1
         have hfz45_2 := blk_frozen BK109.out 2
         have hfz45_3 := blk_frozen BK109.out 3
         have hfz45_4 := blk_frozen BK109.out 4
         have hfz45_5 := blk_frozen BK109.out 5
         go_wp2
         repeat (go_quiet (fail); try go_wp2)
         go_ret
         exact ⟨by first | rfl | (simp [errW_none, errW_some] <;> rfl) | (simp [*, errW_none, errW_some] <;> rfl), by repeat (first | (with_reducible first | exact HB.out | apply below_alloc | apply pw_below_drewN | apply below_drew1 | refine below_set ?_ GE109.out | refine below_set ?_ GE110.out) | exact HB.out)⟩
        ·rw [if_neg c43] at H
         have c43b0 : decide (a0_5 < 1) = false := decide_eq_false c43
         clear c43
         by_cases c46 : a0_5 > 1024
         ·rw [if_pos c46] at H
          have c46b0 : decide (1024 < a0_5) = true := decide_eq_true c46
          clear c46
          obtain rfl := Option.some.inj H
          have hnb47 := NB109_110.out
          have hnc47 := NB110_109.out
          have hcz48_0 : wc.cell? ⟨gb109, 0, none⟩ = some (.string a0_0) := (blk_cell BK109.out 0).trans rfl
          have hcz48_1 : wc.cell? ⟨gb109, 1, none⟩ = some (.string a0_1) := (blk_cell BK109.out 1).trans rfl
          have hcz48_2 : wc.cell? ⟨gb109, 2, none⟩ = some (.int .i64 a0_2) := (blk_cell BK109.out 2).trans rfl
          have hcz48_3 : wc.cell? ⟨gb109, 3, none⟩ = some (.int .i64 a0_3) := (blk_cell BK109.out 3).trans rfl
          have hcz48_4 : wc.cell? ⟨gb109, 4, none⟩ = some (.int .i64 a0_4) := (blk_cell BK109.out 4).trans rfl
          have hcz48_5 : wc.cell? ⟨gb109, 5, none⟩ = some (.int .i64 a0_5) := (blk_cell BK109.out 5).trans rfl
          have hfz48_0 := blk_frozen BK109.out 0
          have hfz48_1 := blk_frozen BK109.out 1
          have hfz48_2 := blk_frozen BK109.out 2
          have hfz48_3 := blk_frozen BK109.out 3
          have hfz48_4 := blk_frozen BK109.out 4
          have hfz48_5 := blk_frozen BK109.out 5
          go_wp2
          repeat (go_quiet (fail); try go_wp2)
          go_ret
          exact ⟨by first | rfl | (simp [errW_none, errW_some] <;> rfl) | (simp [*, errW_none, errW_some] <;> rfl), by repeat (first | (with_reducible first | exact HB.out | apply below_alloc | apply pw_below_drewN | apply below_drew1 | refine below_set ?_ GE109.out | refine below_set ?_ GE110.out) | exact HB.out)⟩
         ·rw [if_neg c46] at H
          have c46b0 : decide (1024 < a0_5) = false := decide_eq_false c46
          clear c46
          by_cases c49 : x5_2 = true
          ·subst c49
           have H1 : (if x6_2 = true then (some 0) else (some 6)) = some r := by rw [if_pos rfl] at H; exact H
           clear H
           have H := H1
           clear H1
           by_cases c50 : x6_2 = true
           ·subst c50
            have H1 : (some 0) = some r := by rw [if_pos rfl] at H; exact H
            clear H
            have H := H1
            clear H1
            obtain rfl := Option.some.inj H
            have hnb51 := NB109_110.out
            have hnc51 := NB110_109.out
            have hcz52_0 : wc.cell? ⟨gb109, 0, none⟩ = some (.string a0_0) := (blk_cell BK109.out 0).trans rfl
            have hcz52_1 : wc.cell? ⟨gb109, 1, none⟩ = some (.string a0_1) := (blk_cell BK109.out 1).trans rfl
            have hcz52_2 : wc.cell? ⟨gb109, 2, none⟩ = some (.int .i64 a0_2) := (blk_cell BK109.out 2).trans rfl
            have hcz52_3 : wc.cell? ⟨gb109, 3, none⟩ = some (.int .i64 a0_3) := (blk_cell BK109.out 3).trans rfl
            have hcz52_4 : wc.cell? ⟨gb109, 4, none⟩ = some (.int .i64 a0_4) := (blk_cell BK109.out 4).trans rfl
            have hcz52_5 : wc.cell? ⟨gb109, 5, none⟩ = some (.int .i64 a0_5) := (blk_cell BK109.out 5).trans rfl
            have hfz52_0 := blk_frozen BK109.out 0
            have hfz52_1 := blk_frozen BK109.out 1
            have hfz52_2 := blk_frozen BK109.out 2
            have hfz52_3 := blk_frozen BK109.out 3
            have hfz52_4 := blk_frozen BK109.out 4
            have hfz52_5 := blk_frozen BK109.out 5
            go_wp2
            repeat (go_quiet (fail); try go_wp2)
            go_ret
            exact ⟨by first | rfl | (simp [errW_none, errW_some] <;> rfl) | (simp [*, errW_none, errW_some] <;> rfl), by repeat (first | (with_reducible first | exact HB.out | apply below_alloc | apply pw_below_drewN | apply below_drew1 | refine below_set ?_ GE109.out | refine below_set ?_ GE110.out) | exact HB.out)⟩
           ·replace c50 := Bool.eq_false_iff.mpr c50
            subst c50
            have H1 : (some 6) = some r := by rw [if_neg (show ¬ (false = true) by decide)] at H; exact H
            clear H
            have H := H1
            clear H1
            obtain rfl := Option.some.inj H
            have hnb53 := NB109_110.out
            have hnc53 := NB110_109.out
            have hcz54_0 : wc.cell? ⟨gb109, 0, none⟩ = some (.string a0_0) := (blk_cell BK109.out 0).trans rfl
            have hcz54_1 : wc.cell? ⟨gb109, 1, none⟩ = some (.string a0_1) := (blk_cell BK109.out 1).trans rfl
            have hcz54_2 : wc.cell? ⟨gb109, 2, none⟩ = some (.int .i64 a0_2) := (blk_cell BK109.out 2).trans rfl
            have hcz54_3 : wc.cell? ⟨gb109, 3, none⟩ = some (.int .i64 a0_3) := (blk_cell BK109.out 3).trans rfl
            have hcz54_4 : wc.cell? ⟨gb109, 4, none⟩ = some (.int .i64 a0_4) := (blk_cell BK109.out 4).trans rfl
            have hcz54_5 : wc.cell? ⟨gb109, 5, none⟩ = some (.int .i64 a0_5) := (blk_cell BK109.out 5).trans rfl
            have hfz54_0 := blk_frozen BK109.out 0
            have hfz54_1 := blk_frozen BK109.out 1
            have hfz54_2 := blk_frozen BK109.out 2
            have hfz54_3 := blk_frozen BK109.out 3
            have hfz54_4 := blk_frozen BK109.out 4
            have hfz54_5 := blk_frozen BK109.out 5
            go_wp2
            repeat (go_quiet (fail); try go_wp2)
            go_ret
            exact ⟨by first | rfl | (simp [errW_none, errW_some] <;> rfl) | (simp [*, errW_none, errW_some] <;> rfl), by repeat (first | (with_reducible first | exact HB.out | apply below_alloc | apply pw_below_drewN | apply below_drew1 | refine below_set ?_ GE109.out | refine below_set ?_ GE110.out) | exact HB.out)⟩
          ·replace c49 := Bool.eq_false_iff.mpr c49
           subst c49
           have H1 : (some 6) = some r := by rw [if_neg (show ¬ (false = true) by decide)] at H; exact H
           clear H
           have H := H1
           clear H1
           obtain rfl := Option.some.inj H
           have hnb55 := NB109_110.out
           have hnc55 := NB110_109.out
           have hcz56_0 : wc.cell? ⟨gb109, 0, none⟩ = some (.string a0_0) := (blk_cell BK109.out 0).trans rfl
           have hcz56_1 : wc.cell? ⟨gb109, 1, none⟩ = some (.string a0_1) := (blk_cell BK109.out 1).trans rfl
           have hcz56_2 : wc.cell? ⟨gb109, 2, none⟩ = some (.int .i64 a0_2) := (blk_cell BK109.out 2).trans rfl
           have hcz56_3 : wc.cell? ⟨gb109, 3, none⟩ = some (.int .i64 a0_3) := (blk_cell BK109.out 3).trans rfl
           have hcz56_4 : wc.cell? ⟨gb109, 4, none⟩ = some (.int .i64 a0_4) := (blk_cell BK109.out 4).trans rfl
           have hcz56_5 : wc.cell? ⟨gb109, 5, none⟩ = some (.int .i64 a0_5) := (blk_cell BK109.out 5).trans rfl
           have hfz56_0 := blk_frozen BK109.out 0
           have hfz56_1 := blk_frozen BK109.out 1
           have hfz56_2 := blk_frozen BK109.out 2
           have hfz56_3 := blk_frozen BK109.out 3
           have hfz56_4 := blk_frozen BK109.out 4
           have hfz56_5 := blk_frozen BK109.out 5
           go_wp2
           repeat (go_quiet (fail); try go_wp2)
           go_ret
           exact ⟨by first | rfl | (simp [errW_none, errW_some] <;> rfl) | (simp [*, errW_none, errW_some] <;> rfl), by repeat (first | (with_reducible first | exact HB.out | apply below_alloc | apply pw_below_drewN | apply below_drew1 | refine below_set ?_ GE109.out | refine below_set ?_ GE110.out) | exact HB.out)⟩
    ·rw [if_neg c27] at H
     have c27b0 : (a0_1.toList == a1_0.toList) = false := beq_eq_false_iff_ne.mpr c27
     have c27b1 : (a0_1.toList != a1_0.toList) = true := bne_iff_ne.mpr c27
     obtain rfl := Option.some.inj H
     have hnb57 := NB109_110.out
     have hnc57 := NB110_109.out
     have hcz58_0 : wc.cell? ⟨gb109, 0, none⟩ = some (.string a0_0) := (blk_cell BK109.out 0).trans rfl
     have hcz58_1 : wc.cell? ⟨gb109, 1, none⟩ = some (.string a0_1) := (blk_cell BK109.out 1).trans rfl
     have hcz58_2 : wc.cell? ⟨gb109, 2, none⟩ = some (.int .i64 a0_2) := (blk_cell BK109.out 2).trans rfl
     have hcz58_3 : wc.cell? ⟨gb109, 3, none⟩ = some (.int .i64 a0_3) := (blk_cell BK109.out 3).trans rfl
     have hcz58_4 : wc.cell? ⟨gb109, 4, none⟩ = some (.int .i64 a0_4) := (blk_cell BK109.out 4).trans rfl
     have hcz58_5 : wc.cell? ⟨gb109, 5, none⟩ = some (.int .i64 a0_5) := (blk_cell BK109.out 5).trans rfl
     have hfz58_0 := blk_frozen BK109.out 0
     have hfz58_1 := blk_frozen BK109.out 1
     have hfz58_2 := blk_frozen BK109.out 2
     have hfz58_3 := blk_frozen BK109.out 3
     have hfz58_4 := blk_frozen BK109.out 4
     have hfz58_5 := blk_frozen BK109.out 5
     go_wp2_with (first | (go_at_call 29; (with_reducible refine (lexer_Name.calls a0_0 true _ ?side99  A25.out).mono ?_); (case side99 => first | exact HG.out | exact Glob.below HG.out (by repeat (first | (with_reducible first | exact HB.out | apply below_alloc | apply pw_below_drewN | apply below_drew1 | refine below_set ?_ GE109.out | refine below_set ?_ GE110.out) | exact HB.out))); rintro e w59 ⟨rfl, hb⟩; have n0_ := Aside0.mk (blk_below (g := gb109) (o := .cells #[.string a0_0, .string a0_1, .int .i64 a0_2, .int .i64 a0_3, .int .i64 a0_4, .int .i64 a0_5] 23 (0, 0)) (by (with_reducible repeat (first | refine blk_drewN ?_ _ | refine blk_drew ?_ | refine blk_alloc ?_ _)); exact BK109.out) hb); have n1_ := Aside0.mk (blk_below (g := gb110) (o := .cells #[.string a1_0, .int .i64 a1_1, .int .i64 a1_2, .string a1_3, .int .i64 a1_4, .int .i64 a1_5, .int .i64 a1_6, .slice A1_7 l1_7.length c1_7, .int .i64 a1_8, .int .i64 a1_9, .int .i64 a1_10, .int .i64 a1_11] 51 (0, 0)) (by (with_reducible repeat (first | refine blk_drewN ?_ _ | refine blk_drew ?_ | refine blk_alloc ?_ _)); exact BK110.out) hb); have n2_ := Aside0.mk (below_step (by repeat (first | (with_reducible first | exact HB.out | apply below_alloc | apply pw_below_drewN | apply below_drew1 | refine below_set ?_ GE109.out | refine below_set ?_ GE110.out) | exact HB.out)) hb); clear BK109; clear BK110; clear HB; have BK109 := n0_; have BK110 := n1_; have HB := n2_; clear n0_ n1_ n2_; (try clear hb); (try clear hb2); (try clear hk); (try clear hi); have hcz60_0 : w59.cell? ⟨gb109, 0, none⟩ = some (.string a0_0) := (blk_cell BK109.out 0).trans rfl; have hcz60_1 : w59.cell? ⟨gb109, 1, none⟩ = some (.string a0_1) := (blk_cell BK109.out 1).trans rfl; have hcz60_2 : w59.cell? ⟨gb109, 2, none⟩ = some (.int .i64 a0_2) := (blk_cell BK109.out 2).trans rfl; have hcz60_3 : w59.cell? ⟨gb109, 3, none⟩ = some (.int .i64 a0_3) := (blk_cell BK109.out 3).trans rfl; have hcz60_4 : w59.cell? ⟨gb109, 4, none⟩ = some (.int .i64 a0_4) := (blk_cell BK109.out 4).trans rfl; have hcz60_5 : w59.cell? ⟨gb109, 5, none⟩ = some (.int .i64 a0_5) := (blk_cell BK109.out 5).trans rfl; have hfz60_0 := blk_frozen BK109.out 0; have hfz60_1 := blk_frozen BK109.out 1; have hfz60_2 := blk_frozen BK109.out 2; have hfz60_3 := blk_frozen BK109.out 3; have hfz60_4 := blk_frozen BK109.out 4; have hfz60_5 := blk_frozen BK109.out 5; have hcz61_0 : w59.cell? ⟨gb110, 0, none⟩ = some (.string a1_0) := (blk_cell BK110.out 0).trans rfl; have hcz61_1 : w59.cell? ⟨gb110, 1, none⟩ = some (.int .i64 a1_1) := (blk_cell BK110.out 1).trans rfl; have hcz61_2 : w59.cell? ⟨gb110, 2, none⟩ = some (.int .i64 a1_2) := (blk_cell BK110.out 2).trans rfl; have hcz61_3 : w59.cell? ⟨gb110, 3, none⟩ = some (.string a1_3) := (blk_cell BK110.out 3).trans rfl; have hcz61_4 : w59.cell? ⟨gb110, 4, none⟩ = some (.int .i64 a1_4) := (blk_cell BK110.out 4).trans rfl; have hcz61_5 : w59.cell? ⟨gb110, 5, none⟩ = some (.int .i64 a1_5) := (blk_cell BK110.out 5).trans rfl; have hcz61_6 : w59.cell? ⟨gb110, 6, none⟩ = some (.int .i64 a1_6) := (blk_cell BK110.out 6).trans rfl; have hcz61_7 : w59.cell? ⟨gb110, 7, none⟩ = some (.slice A1_7 l1_7.length c1_7) := (blk_cell BK110.out 7).trans rfl; have hcz61_8 : w59.cell? ⟨gb110, 8, none⟩ = some (.int .i64 a1_8) := (blk_cell BK110.out 8).trans rfl; have hcz61_9 : w59.cell? ⟨gb110, 9, none⟩ = some (.int .i64 a1_9) := (blk_cell BK110.out 9).trans rfl; have hcz61_10 : w59.cell? ⟨gb110, 10, none⟩ = some (.int .i64 a1_10) := (blk_cell BK110.out 10).trans rfl; have hcz61_11 : w59.cell? ⟨gb110, 11, none⟩ = some (.int .i64 a1_11) := (blk_cell BK110.out 11).trans rfl; have hfz61_0 := blk_frozen BK110.out 0; have hfz61_1 := blk_frozen BK110.out 1; have hfz61_2 := blk_frozen BK110.out 2; have hfz61_3 := blk_frozen BK110.out 3; have hfz61_4 := blk_frozen BK110.out 4; have hfz61_5 := blk_frozen BK110.out 5; have hfz61_6 := blk_frozen BK110.out 6; have hfz61_7 := blk_frozen BK110.out 7; have hfz61_8 := blk_frozen BK110.out 8; have hfz61_9 := blk_frozen BK110.out 9; have hfz61_10 := blk_frozen BK110.out 10; have hfz61_11 := blk_frozen BK110.out 11))
     repeat (go_quiet (first | (go_at_call 29; (with_reducible refine (lexer_Name.calls a0_0 true _ ?side99  A25.out).mono ?_); (case side99 => first | exact HG.out | exact Glob.below HG.out (by repeat (first | (with_reducible first | exact HB.out | apply below_alloc | apply pw_below_drewN | apply below_drew1 | refine below_set ?_ GE109.out | refine below_set ?_ GE110.out) | exact HB.out))); rintro e w59 ⟨rfl, hb⟩; have n0_ := Aside0.mk (blk_below (g := gb109) (o := .cells #[.string a0_0, .string a0_1, .int .i64 a0_2, .int .i64 a0_3, .int .i64 a0_4, .int .i64 a0_5] 23 (0, 0)) (by (with_reducible repeat (first | refine blk_drewN ?_ _ | refine blk_drew ?_ | refine blk_alloc ?_ _)); exact BK109.out) hb); have n1_ := Aside0.mk (blk_below (g := gb110) (o := .cells #[.string a1_0, .int .i64 a1_1, .int .i64 a1_2, .string a1_3, .int .i64 a1_4, .int .i64 a1_5, .int .i64 a1_6, .slice A1_7 l1_7.length c1_7, .int .i64 a1_8, .int .i64 a1_9, .int .i64 a1_10, .int .i64 a1_11] 51 (0, 0)) (by (with_reducible repeat (first | refine blk_drewN ?_ _ | refine blk_drew ?_ | refine blk_alloc ?_ _)); exact BK110.out) hb); have n2_ := Aside0.mk (below_step (by repeat (first | (with_reducible first | exact HB.out | apply below_alloc | apply pw_below_drewN | apply below_drew1 | refine below_set ?_ GE109.out | refine below_set ?_ GE110.out) | exact HB.out)) hb); clear BK109; clear BK110; clear HB; have BK109 := n0_; have BK110 := n1_; have HB := n2_; clear n0_ n1_ n2_; (try clear hb); (try clear hb2); (try clear hk); (try clear hi); have hcz60_0 : w59.cell? ⟨gb109, 0, none⟩ = some (.string a0_0) := (blk_cell BK109.out 0).trans rfl; have hcz60_1 : w59.cell? ⟨gb109, 1, none⟩ = some (.string a0_1) := (blk_cell BK109.out 1).trans rfl; have hcz60_2 : w59.cell? ⟨gb109, 2, none⟩ = some (.int .i64 a0_2) := (blk_cell BK109.out 2).trans rfl; have hcz60_3 : w59.cell? ⟨gb109, 3, none⟩ = some (.int .i64 a0_3) := (blk_cell BK109.out 3).trans rfl; have hcz60_4 : w59.cell? ⟨gb109, 4, none⟩ = some (.int .i64 a0_4) := (blk_cell BK109.out 4).trans rfl; have hcz60_5 : w59.cell? ⟨gb109, 5, none⟩ = some (.int .i64 a0_5) := (blk_cell BK109.out 5).trans rfl; have hfz60_0 := blk_frozen BK109.out 0; have hfz60_1 := blk_frozen BK109.out 1; have hfz60_2 := blk_frozen BK109.out 2; have hfz60_3 := blk_frozen BK109.out 3; have hfz60_4 := blk_frozen BK109.out 4; have hfz60_5 := blk_frozen BK109.out 5; have hcz61_0 : w59.cell? ⟨gb110, 0, none⟩ = some (.string a1_0) := (blk_cell BK110.out 0).trans rfl; have hcz61_1 : w59.cell? ⟨gb110, 1, none⟩ = some (.int .i64 a1_1) := (blk_cell BK110.out 1).trans rfl; have hcz61_2 : w59.cell? ⟨gb110, 2, none⟩ = some (.int .i64 a1_2) := (blk_cell BK110.out 2).trans rfl; have hcz61_3 : w59.cell? ⟨gb110, 3, none⟩ = some (.string a1_3) := (blk_cell BK110.out 3).trans rfl; have hcz61_4 : w59.cell? ⟨gb110, 4, none⟩ = some (.int .i64 a1_4) := (blk_cell BK110.out 4).trans rfl; have hcz61_5 : w59.cell? ⟨gb110, 5, none⟩ = some (.int .i64 a1_5) := (blk_cell BK110.out 5).trans rfl; have hcz61_6 : w59.cell? ⟨gb110, 6, none⟩ = some (.int .i64 a1_6) := (blk_cell BK110.out 6).trans rfl; have hcz61_7 : w59.cell? ⟨gb110, 7, none⟩ = some (.slice A1_7 l1_7.length c1_7) := (blk_cell BK110.out 7).trans rfl; have hcz61_8 : w59.cell? ⟨gb110, 8, none⟩ = some (.int .i64 a1_8) := (blk_cell BK110.out 8).trans rfl; have hcz61_9 : w59.cell? ⟨gb110, 9, none⟩ = some (.int .i64 a1_9) := (blk_cell BK110.out 9).trans rfl; have hcz61_10 : w59.cell? ⟨gb110, 10, none⟩ = some (.int .i64 a1_10) := (blk_cell BK110.out 10).trans rfl; have hcz61_11 : w59.cell? ⟨gb110, 11, none⟩ = some (.int .i64 a1_11) := (blk_cell BK110.out 11).trans rfl; have hfz61_0 := blk_frozen BK110.out 0; have hfz61_1 := blk_frozen BK110.out 1; have hfz61_2 := blk_frozen BK110.out 2; have hfz61_3 := blk_frozen BK110.out 3; have hfz61_4 := blk_frozen BK110.out 4; have hfz61_5 := blk_frozen BK110.out 5; have hfz61_6 := blk_frozen BK110.out 6; have hfz61_7 := blk_frozen BK110.out 7; have hfz61_8 := blk_frozen BK110.out 8; have hfz61_9 := blk_frozen BK110.out 9; have hfz61_10 := blk_frozen BK110.out 10; have hfz61_11 := blk_frozen BK110.out 11)); try go_wp2_with (first | (go_at_call 29; (with_reducible refine (lexer_Name.calls a0_0 true _ ?side99  A25.out).mono ?_); (case side99 => first | exact HG.out | exact Glob.below HG.out (by repeat (first | (with_reducible first | exact HB.out | apply below_alloc | apply pw_below_drewN | apply below_drew1 | refine below_set ?_ GE109.out | refine below_set ?_ GE110.out) | exact HB.out))); rintro e w59 ⟨rfl, hb⟩; have n0_ := Aside0.mk (blk_below (g := gb109) (o := .cells #[.string a0_0, .string a0_1, .int .i64 a0_2, .int .i64 a0_3, .int .i64 a0_4, .int .i64 a0_5] 23 (0, 0)) (by (with_reducible repeat (first | refine blk_drewN ?_ _ | refine blk_drew ?_ | refine blk_alloc ?_ _)); exact BK109.out) hb); have n1_ := Aside0.mk (blk_below (g := gb110) (o := .cells #[.string a1_0, .int .i64 a1_1, .int .i64 a1_2, .string a1_3, .int .i64 a1_4, .int .i64 a1_5, .int .i64 a1_6, .slice A1_7 l1_7.length c1_7, .int .i64 a1_8, .int .i64 a1_9, .int .i64 a1_10, .int .i64 a1_11] 51 (0, 0)) (by (with_reducible repeat (first | refine blk_drewN ?_ _ | refine blk_drew ?_ | refine blk_alloc ?_ _)); exact BK110.out) hb); have n2_ := Aside0.mk (below_step (by repeat (first | (with_reducible first | exact HB.out | apply below_alloc | apply pw_below_drewN | apply below_drew1 | refine below_set ?_ GE109.out | refine below_set ?_ GE110.out) | exact HB.out)) hb); clear BK109; clear BK110; clear HB; have BK109 := n0_; have BK110 := n1_; have HB := n2_; clear n0_ n1_ n2_; (try clear hb); (try clear hb2); (try clear hk); (try clear hi); have hcz60_0 : w59.cell? ⟨gb109, 0, none⟩ = some (.string a0_0) := (blk_cell BK109.out 0).trans rfl; have hcz60_1 : w59.cell? ⟨gb109, 1, none⟩ = some (.string a0_1) := (blk_cell BK109.out 1).trans rfl; have hcz60_2 : w59.cell? ⟨gb109, 2, none⟩ = some (.int .i64 a0_2) := (blk_cell BK109.out 2).trans rfl; have hcz60_3 : w59.cell? ⟨gb109, 3, none⟩ = some (.int .i64 a0_3) := (blk_cell BK109.out 3).trans rfl; have hcz60_4 : w59.cell? ⟨gb109, 4, none⟩ = some (.int .i64 a0_4) := (blk_cell BK109.out 4).trans rfl; have hcz60_5 : w59.cell? ⟨gb109, 5, none⟩ = some (.int .i64 a0_5) := (blk_cell BK109.out 5).trans rfl; have hfz60_0 := blk_frozen BK109.out 0; have hfz60_1 := blk_frozen BK109.out 1; have hfz60_2 := blk_frozen BK109.out 2; have hfz60_3 := blk_frozen BK109.out 3; have hfz60_4 := blk_frozen BK109.out 4; have hfz60_5 := blk_frozen BK109.out 5; have hcz61_0 : w59.cell? ⟨gb110, 0, none⟩ = some (.string a1_0) := (blk_cell BK110.out 0).trans rfl; have hcz61_1 : w59.cell? ⟨gb110, 1, none⟩ = some (.int .i64 a1_1) := (blk_cell BK110.out 1).trans rfl; have hcz61_2 : w59.cell? ⟨gb110, 2, none⟩ = some (.int .i64 a1_2) := (blk_cell BK110.out 2).trans rfl; have hcz61_3 : w59.cell? ⟨gb110, 3, none⟩ = some (.string a1_3) := (blk_cell BK110.out 3).trans rfl; have hcz61_4 : w59.cell? ⟨gb110, 4, none⟩ = some (.int .i64 a1_4) := (blk_cell BK110.out 4).trans rfl; have hcz61_5 : w59.cell? ⟨gb110, 5, none⟩ = some (.int .i64 a1_5) := (blk_cell BK110.out 5).trans rfl; have hcz61_6 : w59.cell? ⟨gb110, 6, none⟩ = some (.int .i64 a1_6) := (blk_cell BK110.out 6).trans rfl; have hcz61_7 : w59.cell? ⟨gb110, 7, none⟩ = some (.slice A1_7 l1_7.length c1_7) := (blk_cell BK110.out 7).trans rfl; have hcz61_8 : w59.cell? ⟨gb110, 8, none⟩ = some (.int .i64 a1_8) := (blk_cell BK110.out 8).trans rfl; have hcz61_9 : w59.cell? ⟨gb110, 9, none⟩ = some (.int .i64 a1_9) := (blk_cell BK110.out 9).trans rfl; have hcz61_10 : w59.cell? ⟨gb110, 10, none⟩ = some (.int .i64 a1_10) := (blk_cell BK110.out 10).trans rfl; have hcz61_11 : w59.cell? ⟨gb110, 11, none⟩ = some (.int .i64 a1_11) := (blk_cell BK110.out 11).trans rfl; have hfz61_0 := blk_frozen BK110.out 0; have hfz61_1 := blk_frozen BK110.out 1; have hfz61_2 := blk_frozen BK110.out 2; have hfz61_3 := blk_frozen BK110.out 3; have hfz61_4 := blk_frozen BK110.out 4; have hfz61_5 := blk_frozen BK110.out 5; have hfz61_6 := blk_frozen BK110.out 6; have hfz61_7 := blk_frozen BK110.out 7; have hfz61_8 := blk_frozen BK110.out 8; have hfz61_9 := blk_frozen BK110.out 9; have hfz61_10 := blk_frozen BK110.out 10; have hfz61_11 := blk_frozen BK110.out 11)))
     go_ret
     exact ⟨by first | rfl | (simp [errW_none, errW_some] <;> rfl) | (simp [*, errW_none, errW_some] <;> rfl), by repeat (first | (with_reducible first | exact HB.out | apply below_alloc | apply pw_below_drewN | apply below_drew1 | refine below_set ?_ GE109.out | refine below_set ?_ GE110.out) | exact HB.out)⟩
   ·replace c26 := Bool.eq_false_iff.mpr c26
    subst c26
    have H1 : (some 4) = some r := by rw [if_neg (show ¬ (false = true) by decide)] at H; exact H
    clear H
    have H := H1
    clear H1
    obtain rfl := Option.some.inj H
    have hnb62 := NB109_110.out
    have hnc62 := NB110_109.out
    have hcz63_0 : wc.cell? ⟨gb109, 0, none⟩ = some (.string a0_0) := (blk_cell BK109.out 0).trans rfl
    have hcz63_1 : wc.cell? ⟨gb109, 1, none⟩ = some (.string a0_1) := (blk_cell BK109.out 1).trans rfl
    have hcz63_2 : wc.cell? ⟨gb109, 2, none⟩ = some (.int .i64 a0_2) := (blk_cell BK109.out 2).trans rfl
    have hcz63_3 : wc.cell? ⟨gb109, 3, none⟩ = some (.int .i64 a0_3) := (blk_cell BK109.out 3).trans rfl
    have hcz63_4 : wc.cell? ⟨gb109, 4, none⟩ = some (.int .i64 a0_4) := (blk_cell BK109.out 4).trans rfl
    have hcz63_5 : wc.cell? ⟨gb109, 5, none⟩ = some (.int .i64 a0_5) := (blk_cell BK109.out 5).trans rfl
    have hfz63_0 := blk_frozen BK109.out 0
    have hfz63_1 := blk_frozen BK109.out 1
    have hfz63_2 := blk_frozen BK109.out 2
    have hfz63_3 := blk_frozen BK109.out 3
    have hfz63_4 := blk_frozen BK109.out 4
    have hfz63_5 := blk_frozen BK109.out 5
    go_wp2_with (first | (go_at_call 29; (with_reducible refine (lexer_Name.calls a0_0 false _ ?side99  A25.out).mono ?_); (case side99 => first | exact HG.out | exact Glob.below HG.out (by repeat (first | (with_reducible first | exact HB.out | apply below_alloc | apply pw_below_drewN | apply below_drew1 | refine below_set ?_ GE109.out | refine below_set ?_ GE110.out) | exact HB.out))); rintro e w64 ⟨rfl, hb⟩; have n0_ := Aside0.mk (blk_below (g := gb109) (o := .cells #[.string a0_0, .string a0_1, .int .i64 a0_2, .int .i64 a0_3, .int .i64 a0_4, .int .i64 a0_5] 23 (0, 0)) (by (with_reducible repeat (first | refine blk_drewN ?_ _ | refine blk_drew ?_ | refine blk_alloc ?_ _)); exact BK109.out) hb); have n1_ := Aside0.mk (blk_below (g := gb110) (o := .cells #[.string a1_0, .int .i64 a1_1, .int .i64 a1_2, .string a1_3, .int .i64 a1_4, .int .i64 a1_5, .int .i64 a1_6, .slice A1_7 l1_7.length c1_7, .int .i64 a1_8, .int .i64 a1_9, .int .i64 a1_10, .int .i64 a1_11] 51 (0, 0)) (by (with_reducible repeat (first | refine blk_drewN ?_ _ | refine blk_drew ?_ | refine blk_alloc ?_ _)); exact BK110.out) hb); have n2_ := Aside0.mk (below_step (by repeat (first | (with_reducible first | exact HB.out | apply below_alloc | apply pw_below_drewN | apply below_drew1 | refine below_set ?_ GE109.out | refine below_set ?_ GE110.out) | exact HB.out)) hb); clear BK109; clear BK110; clear HB; have BK109 := n0_; have BK110 := n1_; have HB := n2_; clear n0_ n1_ n2_; (try clear hb); (try clear hb2); (try clear hk); (try clear hi)))
    repeat (go_quiet (first | (go_at_call 29; (with_reducible refine (lexer_Name.calls a0_0 false _ ?side99  A25.out).mono ?_); (case side99 => first | exact HG.out | exact Glob.below HG.out (by repeat (first | (with_reducible first | exact HB.out | apply below_alloc | apply pw_below_drewN | apply below_drew1 | refine below_set ?_ GE109.out | refine below_set ?_ GE110.out) | exact HB.out))); rintro e w64 ⟨rfl, hb⟩; have n0_ := Aside0.mk (blk_below (g := gb109) (o := .cells #[.string a0_0, .string a0_1, .int .i64 a0_2, .int .i64 a0_3, .int .i64 a0_4, .int .i64 a0_5] 23 (0, 0)) (by (with_reducible repeat (first | refine blk_drewN ?_ _ | refine blk_drew ?_ | refine blk_alloc ?_ _)); exact BK109.out) hb); have n1_ := Aside0.mk (blk_below (g := gb110) (o := .cells #[.string a1_0, .int .i64 a1_1, .int .i64 a1_2, .string a1_3, .int .i64 a1_4, .int .i64 a1_5, .int .i64 a1_6, .slice A1_7 l1_7.length c1_7, .int .i64 a1_8, .int .i64 a1_9, .int .i64 a1_10, .int .i64 a1_11] 51 (0, 0)) (by (with_reducible repeat (first | refine blk_drewN ?_ _ | refine blk_drew ?_ | refine blk_alloc ?_ _)); exact BK110.out) hb); have n2_ := Aside0.mk (below_step (by repeat (first | (with_reducible first | exact HB.out | apply below_alloc | apply pw_below_drewN | apply below_drew1 | refine below_set ?_ GE109.out | refine below_set ?_ GE110.out) | exact HB.out)) hb); clear BK109; clear BK110; clear HB; have BK109 := n0_; have BK110 := n1_; have HB := n2_; clear n0_ n1_ n2_; (try clear hb); (try clear hb2); (try clear hk); (try clear hi))); try go_wp2_with (first | (go_at_call 29; (with_reducible refine (lexer_Name.calls a0_0 false _ ?side99  A25.out).mono ?_); (case side99 => first | exact HG.out | exact Glob.below HG.out (by repeat (first | (with_reducible first | exact HB.out | apply below_alloc | apply pw_below_drewN | apply below_drew1 | refine below_set ?_ GE109.out | refine below_set ?_ GE110.out) | exact HB.out))); rintro e w64 ⟨rfl, hb⟩; have n0_ := Aside0.mk (blk_below (g := gb109) (o := .cells #[.string a0_0, .string a0_1, .int .i64 a0_2, .int .i64 a0_3, .int .i64 a0_4, .int .i64 a0_5] 23 (0, 0)) (by (with_reducible repeat (first | refine blk_drewN ?_ _ | refine blk_drew ?_ | refine blk_alloc ?_ _)); exact BK109.out) hb); have n1_ := Aside0.mk (blk_below (g := gb110) (o := .cells #[.string a1_0, .int .i64 a1_1, .int .i64 a1_2, .string a1_3, .int .i64 a1_4, .int .i64 a1_5, .int .i64 a1_6, .slice A1_7 l1_7.length c1_7, .int .i64 a1_8, .int .i64 a1_9, .int .i64 a1_10, .int .i64 a1_11] 51 (0, 0)) (by (with_reducible repeat (first | refine blk_drewN ?_ _ | refine blk_drew ?_ | refine blk_alloc ?_ _)); exact BK110.out) hb); have n2_ := Aside0.mk (below_step (by repeat (first | (with_reducible first | exact HB.out | apply below_alloc | apply pw_below_drewN | apply below_drew1 | refine below_set ?_ GE109.out | refine below_set ?_ GE110.out) | exact HB.out)) hb); clear BK109; clear BK110; clear HB; have BK109 := n0_; have BK110 := n1_; have HB := n2_; clear n0_ n1_ n2_; (try clear hb); (try clear hb2); (try clear hk); (try clear hi))))
    go_ret
    exact ⟨by first | rfl | (simp [errW_none, errW_some] <;> rfl) | (simp [*, errW_none, errW_some] <;> rfl), by repeat (first | (with_reducible first | exact HB.out | apply below_alloc | apply pw_below_drewN | apply below_drew1 | refine below_set ?_ GE109.out | refine below_set ?_ GE110.out) | exact HB.out)⟩
end Go.Proofs.YtbccjcdmpiolpaaDoor.T
end
section
namespace Go.Proofs.YtbccjcdmpiolpaaDoor.T
open Go.RowKit Go.Proofs.YtbccjcdmpiolpaaDoorW.PrintWords Go.Proofs.YtbccjcdmpiolpaaDoorW.PrintLast Go.Proofs.YtbccjcdmpiolpaaDoorW.PrintMore
attribute [local go_sem] max2_int min2_int max_two min_two max_three min_three max_four min_four
set_option linter.unusedVariables false
set_option linter.unusedSimpArgs false
def plenumlaw41_reading.f (a0 : Int) (a1 : Int) : Option (Int × Int × Int × Int) := some (1, a1, 0, a0)
set_option maxHeartbeats 8000000 in
set_option maxRecDepth 100000 in
theorem plenumlaw41_reading.calls (a0 : Int) (a1 : Int) (r1 : Int) (r2 : Int) (r3 : Int) (r4 : Int) (w : World) (hG : Glob w) (h : plenumlaw41_reading.f a0 a1 = some (r1, r2, r3, r4)) :
  Calls Tryd.prog 23 #[.int .i64 a0, .int .i64 a1] w fun e w' => e = .returned (.agg #[.int .i64 r1, .int .i64 r2, .int .i64 r3, .int .i64 r4]) ∧ Below w.heap.size w w' := by
 have hu32 := Tryd.underlying32
 have hu30 := Tryd.underlying30
 have HG := Aside0.mk hG
 clear hG
 have HB := Aside0.mk (Below.refl w.heap.size w)
 have H : (some (1, a1, 0, a0)) = some (r1, r2, r3, r4) := h
 clear h
 simp only [Option.some.injEq, Prod.mk.injEq] at H
 obtain ⟨rfl, rfl, rfl, rfl⟩ := H
 go_enter Tryd.func23, Tryd.ntmps23
 go_wp2_with (first | ((with_reducible refine gate_dst (N := 4) rfl ?_); refine box_event ?hg (N := 4) ?hd (cs := #[.int .i64 0, .int .i64 0, .int .i64 0, .int .i64 0]) (t := 32) ?hr ?_; (case hd => rfl); (case hg => rfl); (case hr => first | (go_simp; done) | (go_simp; rfl)); intro gb162 hg w3 hbox hb; have n0_ := Aside0.mk (below_step (by repeat (first | (with_reducible first | exact HB.out | apply below_alloc | apply pw_below_drewN | apply below_drew1) | exact HB.out)) hb); have n1_ := Aside0.mk (hbox); have n2_ := Aside0.mk ((by rw [hg]; exact (below_size (by repeat (first | (with_reducible first | exact HB.out | apply below_alloc | apply pw_below_drewN | apply below_drew1) | exact HB.out))) : w.heap.size ≤ gb162)); have n3_ := Aside0.mk ((by rw [hg]; exact (below_size (by repeat (first | (with_reducible first | exact HB.out | apply below_alloc | apply pw_below_drewN | apply below_drew1) | exact HB.out))) : w.heap.size ≤ gb162)); clear HB; have HB := n0_; have BK162 := n1_; have GW162 := n2_; have GE162 := n3_; clear n0_ n1_ n2_ n3_; clear hb hbox hg; have hcz4_0 : w3.cell? ⟨gb162, 0, none⟩ = some (.int .i64 0) := (blk_cell BK162.out 0).trans rfl; have hcz4_1 : w3.cell? ⟨gb162, 1, none⟩ = some (.int .i64 0) := (blk_cell BK162.out 1).trans rfl; have hcz4_2 : w3.cell? ⟨gb162, 2, none⟩ = some (.int .i64 0) := (blk_cell BK162.out 2).trans rfl; have hcz4_3 : w3.cell? ⟨gb162, 3, none⟩ = some (.int .i64 0) := (blk_cell BK162.out 3).trans rfl; have hfz4_0 := blk_frozen BK162.out 0; have hfz4_1 := blk_frozen BK162.out 1; have hfz4_2 := blk_frozen BK162.out 2; have hfz4_3 := blk_frozen BK162.out 3))
 refine bodyPost_ret (results_cell_row rfl _ _ gb162 32 #[.int .i64 1, .int .i64 a1, .int .i64 0, .int .i64 a0] (0, 0) _ rfl (by (with_reducible repeat (first | refine blk_drewN ?_ _ | refine blk_drew ?_ | refine blk_alloc ?_ _)); refine blk_put (cs := #[.int .i64 1, .int .i64 a1, .int .i64 0, .int .i64 0]) ?_ 3 _ rfl; (with_reducible repeat (first | refine blk_drewN ?_ _ | refine blk_drew ?_ | refine blk_alloc ?_ _)); refine blk_put (cs := #[.int .i64 1, .int .i64 a1, .int .i64 0, .int .i64 0]) ?_ 2 _ rfl; (with_reducible repeat (first | refine blk_drewN ?_ _ | refine blk_drew ?_ | refine blk_alloc ?_ _)); refine blk_put (cs := #[.int .i64 1, .int .i64 0, .int .i64 0, .int .i64 0]) ?_ 1 _ rfl; (with_reducible repeat (first | refine blk_drewN ?_ _ | refine blk_drew ?_ | refine blk_alloc ?_ _)); refine blk_put (cs := #[.int .i64 0, .int .i64 0, .int .i64 0, .int .i64 0]) ?_ 0 _ rfl; (with_reducible repeat (first | refine blk_drewN ?_ _ | refine blk_drew ?_ | refine blk_alloc ?_ _)); exact BK162.out) Tryd.underlying32 rfl (by kernel_rfl)) rfl ?_
 exact ⟨by first | rfl | (simp [errW_none, errW_some] <;> rfl) | (simp [*, errW_none, errW_some] <;> rfl), by repeat (first | (with_reducible first | exact HB.out | apply below_alloc | apply pw_below_drewN | apply below_drew1 | refine below_set ?_ GE162.out) | exact HB.out)⟩
end Go.Proofs.YtbccjcdmpiolpaaDoor.T
end
section
namespace Go.Proofs.YtbccjcdmpiolpaaDoor.T
open Go.RowKit Go.Proofs.YtbccjcdmpiolpaaDoor.Pure Go.Proofs.YtbccjcdmpiolpaaDoorW.PrintWords Go.Proofs.YtbccjcdmpiolpaaDoorW.PrintLast Go.Proofs.YtbccjcdmpiolpaaDoorW.PrintMore
set_option linter.unusedVariables false
set_option linter.unusedSimpArgs false
attribute [local go_sem] max2_int min2_int max_two min_two
set_option maxHeartbeats 16000000 in
set_option maxRecDepth 100000 in
theorem trigE_calls (B g : Nat) (L : Lg) (at_ : Int) (w : World) (h : LogAt B g L w) (h1 : L.now ≤ at_) (h2 : L.way ≠ 3) :
  Calls Tryd.prog 24 #[.pointer (some ⟨g, 0, none⟩), .int .i64 at_] w fun e w' => e = .returned (.int .i64 8) ∧ w' = w := by
 obtain ⟨v0, ring, f, hG, hge, _⟩ := h
 have c6 := (blk_cell hG 6).trans rfl
 have c2 := (blk_cell hG 2).trans rfl
 have hb : decide (at_ < L.now) = false := decide_eq_false (by omega)
 have hb2 : (L.way != 3) = true := bne_iff_ne.mpr h2
 clear hG hge h1 h2
 go_enter Tryd.func24, Tryd.ntmps24
 go_wp2
 go_ret
 exact ⟨rfl, rfl⟩
abbrev sLog : ByteArray := ⟨#[108, 111, 103]⟩
abbrev sTemp : ByteArray := ⟨#[116, 101, 109, 112]⟩
def aL0 : Lg := ⟨sLog, sTemp, 1, 60, 0, 2, 100, false, 0, 0, 0, 0, 0, []⟩
def aL1 : Lg := ⟨sLog, sTemp, 1, 60, 0, 2, 110, true, 1, 20000, 0, 110, 0, []⟩
def aR1 : S44 := ⟨1, 120, ⟨1, 20000⟩, 0, 0⟩
def aR2 : S44 := ⟨2, 180, ⟨1, 20000⟩, 0, 0⟩
def aR3 : S44 := ⟨3, 240, ⟨1, 22000⟩, 0, 0⟩
def aL2 : Lg := ⟨sLog, sTemp, 1, 60, 0, 2, 200, true, 1, 21000, 0, 200, 2, [aR1, aR2]⟩
def aL3 : Lg := ⟨sLog, sTemp, 1, 60, 0, 2, 240, true, 1, 22000, 0, 240, 3, [aR2, aR3]⟩
def aK : Lg := ⟨sLog, sTemp, 1, 60, 0, 2, 240, false, 0, 0, 0, 0, 3, [aR2, aR3]⟩
def aK2 : Lg := ⟨sLog, sTemp, 1, 60, 0, 2, 500, false, 0, 0, 0, 0, 3, [aR2, aR3]⟩
theorem ob1 (d : Bool) : aL0.obs 1 20000 0 110 d = (aL1, 0, 0) := by cases d <;> kernel_rfl
theorem ob2 (d : Bool) : aL1.obs 1 21000 0 200 d = (aL2, 2, 0) := by cases d <;> kernel_rfl
theorem ob3 (d : Bool) : aL2.obs 1 22000 0 240 d = (aL3, 1, 0) := by cases d <;> kernel_rfl
theorem af1 : aL3.after 0 10 = ([⟨1, 0, ⟨0, 0⟩, 0, 1⟩, aR2, aR3], 0) := by kernel_rfl
theorem tk1 : aK.tick 500 = (aK2, 0, 0) := by kernel_rfl
theorem rs1 : restS (strOfNums (saveB 3 240 [aR2, aR3])) 2 = some (3, 240, [aR2, aR3]) := by kernel_rfl
theorem ck1 : trend_Check.f 10 sLog sTemp 1 60 0 2 sTemp 1 0 ⟨#[]⟩ 0 0 0 [] 0 0 0 0 = some 0 := by kernel_rfl
theorem ck2 : trend_Check.f 10 sLog sTemp 1 60 0 2 ⟨#[]⟩ 0 0 ⟨#[]⟩ 0 0 0 [] 0 0 0 0 = some 3 := by kernel_rfl
theorem sm1 : plenumref41_Same.f 10 [aR2, aR3] [aR2, aR3] = some true := by kernel_rfl
end Go.Proofs.YtbccjcdmpiolpaaDoor.T
end
section
namespace Go.Proofs.YtbccjcdmpiolpaaDoor.T
open Go.RowKit Go.Proofs.YtbccjcdmpiolpaaDoor.Pure Go.Proofs.YtbccjcdmpiolpaaDoorW.PrintWords Go.Proofs.YtbccjcdmpiolpaaDoorW.PrintLast Go.Proofs.YtbccjcdmpiolpaaDoorW.PrintMore
set_option linter.unusedVariables false
set_option linter.unusedSimpArgs false
attribute [local go_sem] max2_int min2_int max_two min_two
theorem ckA (w : World) (hG : Glob w) : Calls Tryd.prog 17 #[.agg #[.string sLog, .string sTemp, .int .i64 1, .int .i64 60, .int .i64 0, .int .i64 2], .agg #[.string sTemp, .int .i64 1, .int .i64 0, .string ⟨#[]⟩, .int .i64 0, .int .i64 0, .int .i64 0, .slice none 0 0, .int .i64 0, .int .i64 0, .int .i64 0, .int .i64 0]] w fun e w' => e = .returned (.int .i64 0) ∧ Below w.heap.size w w' :=
 trend_Check.calls 10 sLog sTemp 1 60 0 2 sTemp 1 0 ⟨#[]⟩ 0 0 0 none 0 [] 0 0 0 0 0 w hG (Kd.C_nil _ _) (Nat.le_refl _) ck1
theorem ckB (w : World) (hG : Glob w) : Calls Tryd.prog 17 #[.agg #[.string sLog, .string sTemp, .int .i64 1, .int .i64 60, .int .i64 0, .int .i64 2], .agg #[.string ⟨#[]⟩, .int .i64 0, .int .i64 0, .string ⟨#[]⟩, .int .i64 0, .int .i64 0, .int .i64 0, .slice none 0 0, .int .i64 0, .int .i64 0, .int .i64 0, .int .i64 0]] w fun e w' => e = .returned (.int .i64 3) ∧ Below w.heap.size w w' :=
 trend_Check.calls 10 sLog sTemp 1 60 0 2 ⟨#[]⟩ 0 0 ⟨#[]⟩ 0 0 0 none 0 [] 0 0 0 0 3 w hG (Kd.C_nil _ _) (Nat.le_refl _) ck2
theorem smA (A B : Option Addr) (c d : Nat) (w : World) (hG : Glob w) (h1 : Kd.C k44 w A 2 [aR2, aR3]) (h2 : 2 ≤ c) (h3 : Kd.C k44 w B 2 [aR2, aR3]) (h4 : 2 ≤ d) : Calls Tryd.prog 21 #[.slice A 2 c, .slice B 2 d] w fun e w' => e = .returned (.bool true) ∧ Drawn0 w w' :=
 plenumref41_Same.calls 10 A c [aR2, aR3] B d [aR2, aR3] true w hG h1 h2 h3 h4 sm1
theorem elemA {w : World} {A : Option Addr} (h : Kd.C k44 w A 3 [⟨1, 0, ⟨0, 0⟩, 0, 1⟩, aR2, aR3]) : (∃ ad, A = some ad) ∧ ∀ ad : Addr, A = some ad → w.cell? ad = some (.int .i64 1) ∧ w.cell? ⟨ad.block, ad.off + 1, none⟩ = some (.int .i64 0) ∧ w.cell? ⟨ad.block, ad.off + 2, none⟩ = some (.int .i64 0) ∧ w.cell? ⟨ad.block, ad.off + 3, none⟩ = some (.int .i64 0) ∧ w.cell? ⟨ad.block, ad.off + 4, none⟩ = some (.int .i64 0) ∧ w.cell? ⟨ad.block, ad.off + 5, none⟩ = some (.int .i64 1) ∧ w.cell? ⟨ad.block, ad.off + 6 + 1, none⟩ = some (.int .i64 180) := by
 obtain ⟨ad, ea, z0, z1, z2, z3, z4, z5⟩ := at_T44 h 0 (by decide) (by decide)
 obtain ⟨ad2, eb, y0, y1, y2, y3, y4, y5⟩ := at_T44 h 1 (by decide) (by decide)
 refine ⟨⟨ad, ea⟩, fun a e => ?_⟩
 rw [e] at ea eb
 injection ea with ea
 injection eb with eb
 subst ea eb
 exact ⟨z0, z1, z2, z3, z4, z5, y1⟩
theorem okaL0 : OkL aL0 := ⟨by decide, by decide, by decide, by decide, by decide, by decide, by decide, fun _ => by decide⟩
theorem okaL1 : OkL aL1 := ⟨by decide, by decide, by decide, by decide, by decide, by decide, by decide, fun _ => by decide⟩
theorem okaL2 : OkL aL2 := ⟨by decide, by decide, by decide, by decide, by decide, by decide, by decide, fun _ => by decide⟩
theorem okaK : OkL aK := ⟨by decide, by decide, by decide, by decide, by decide, by decide, by decide, fun _ => by decide⟩
theorem okR : ∀ x ∈ aL3.recs, Ok44 x := by
 intro x hx
 rcases List.mem_cons.1 hx with rfl | hx
 ·exact ⟨by decide, by decide⟩
 rcases List.mem_cons.1 hx with rfl | hx
 ·exact ⟨by decide, by decide⟩
 ·cases hx
set_option maxHeartbeats 16000000 in
set_option maxRecDepth 100000 in
theorem awake_calls (w : World) (hG : Glob w) : Calls Tryd.prog 8 #[] w fun e w' => e = .returned (.bool true) ∧ Below w.heap.size w w' := by
 have H0 := Aside0.mk (show 0 < w.heap.size by obtain ⟨t, h⟩ := hG; exact blk_lt h)
 have HG := Aside0.mk hG
 have hu44 := Tryd.underlying44
 have hu30 := Tryd.underlying30
 clear hG
 go_enter Tryd.func8, Tryd.ntmps8
 go_wp2_with (first | ((with_reducible refine gate_dst (N := 1) rfl ?_); refine box_event ?hg (N := 1) ?hd (cs := #[.string ⟨#[]⟩, .string ⟨#[]⟩, .int .i64 0, .int .i64 0, .int .i64 0, .int .i64 0]) (t := 23) ?hr ?_; (case hd => rfl); (case hg => rfl); (case hr => first | (go_simp; done) | (go_simp; rfl)); intro gr hgz w1 hbox hb; have HR1 := Aside0.mk hbox; have HB1 := Aside0.mk hb; have HGR := Aside0.mk (show w.heap.size ≤ gr by rw [hgz]; exact Nat.le_refl _); clear hb hbox hgz) | (refine wpList_store_row rfl 23 (.tmp 1) (.tmp 15) rfl gr #[.string sLog, .string sTemp, .int .i64 1, .int .i64 60, .int .i64 0, .int .i64 2] rfl rfl 23 #[.string ⟨#[]⟩, .string ⟨#[]⟩, .int .i64 0, .int .i64 0, .int .i64 0, .int .i64 0] HR1.out (by kernel_rfl) rfl (by simp [Value.oneCell']) ?_; have HR2 := Aside0.mk (setRow_heap _ _ _ #[.string sLog, .string sTemp, .int .i64 1, .int .i64 60, .int .i64 0, .int .i64 2] _ _ HR1.out); have HB2 := Aside0.mk (below_setRow HB1.out HGR.out #[.string sLog, .string sTemp, .int .i64 1, .int .i64 60, .int .i64 0, .int .i64 2]); generalize w1.setRow gr #[.string sLog, .string sTemp, .int .i64 1, .int .i64 60, .int .i64 0, .int .i64 2] = w2 at HR2 HB2 ⊢; have x0 : w2.cell? ⟨gr, 0, none⟩ = some (.string sLog) := (blk_cell HR2.out 0).trans rfl; have x1 : w2.cell? ⟨gr, 1, none⟩ = some (.string sTemp) := (blk_cell HR2.out 1).trans rfl; have x2 : w2.cell? ⟨gr, 2, none⟩ = some (.int .i64 1) := (blk_cell HR2.out 2).trans rfl; have x3 : w2.cell? ⟨gr, 3, none⟩ = some (.int .i64 60) := (blk_cell HR2.out 3).trans rfl; have x4 : w2.cell? ⟨gr, 4, none⟩ = some (.int .i64 0) := (blk_cell HR2.out 4).trans rfl; have x5 : w2.cell? ⟨gr, 5, none⟩ = some (.int .i64 2) := (blk_cell HR2.out 5).trans rfl;  skip) | (go_at_call 10; (with_reducible refine (new_calls sLog sTemp 1 60 0 2 100 w2).mono ?_); rintro e w3 ⟨g, rfl, hi, hb⟩; have HI3 := Aside0.mk (show LogAt w.heap.size g aL0 w3 from hi.lower HB2.out.size); have HB3 := Aside0.mk (below_step HB2.out hb); have HR3 := Aside0.mk (blk_below HR2.out hb); clear x0 x1 x2 x3 x4 x5; have x0 : w3.cell? ⟨gr, 0, none⟩ = some (.string sLog) := (blk_cell HR3.out 0).trans rfl; have x1 : w3.cell? ⟨gr, 1, none⟩ = some (.string sTemp) := (blk_cell HR3.out 1).trans rfl; have x2 : w3.cell? ⟨gr, 2, none⟩ = some (.int .i64 1) := (blk_cell HR3.out 2).trans rfl; have x3 : w3.cell? ⟨gr, 3, none⟩ = some (.int .i64 60) := (blk_cell HR3.out 3).trans rfl; have x4 : w3.cell? ⟨gr, 4, none⟩ = some (.int .i64 0) := (blk_cell HR3.out 4).trans rfl; have x5 : w3.cell? ⟨gr, 5, none⟩ = some (.int .i64 2) := (blk_cell HR3.out 5).trans rfl;  clear hi hb))
 have HNE := Aside0.mk (show gr ≠ g by obtain ⟨v, r, f, h, _⟩ := HI3.out; exact blk_ne HR3.out h (by decide))
 go_wp2_with (first | (go_at_call 17; (with_reducible refine (ckA w3 (Glob.below HG.out HB3.out)).mono ?_); rintro e w4 ⟨rfl, hb⟩; have HI4 := Aside0.mk (HI3.out.below hb); have HB4 := Aside0.mk (below_step HB3.out hb); have HR4 := Aside0.mk (blk_below HR3.out hb); clear x0 x1 x2 x3 x4 x5; have x0 : w4.cell? ⟨gr, 0, none⟩ = some (.string sLog) := (blk_cell HR4.out 0).trans rfl; have x1 : w4.cell? ⟨gr, 1, none⟩ = some (.string sTemp) := (blk_cell HR4.out 1).trans rfl; have x2 : w4.cell? ⟨gr, 2, none⟩ = some (.int .i64 1) := (blk_cell HR4.out 2).trans rfl; have x3 : w4.cell? ⟨gr, 3, none⟩ = some (.int .i64 60) := (blk_cell HR4.out 3).trans rfl; have x4 : w4.cell? ⟨gr, 4, none⟩ = some (.int .i64 0) := (blk_cell HR4.out 4).trans rfl; have x5 : w4.cell? ⟨gr, 5, none⟩ = some (.int .i64 2) := (blk_cell HR4.out 5).trans rfl;  clear hb) | (go_at_call 17; (with_reducible refine (ckB w4 (Glob.below HG.out HB4.out)).mono ?_); rintro e w5 ⟨rfl, hb⟩; have HI5 := Aside0.mk (HI4.out.below hb); have HB5 := Aside0.mk (below_step HB4.out hb); have HR5 := Aside0.mk (blk_below HR4.out hb); clear x0 x1 x2 x3 x4 x5; have x0 : w5.cell? ⟨gr, 0, none⟩ = some (.string sLog) := (blk_cell HR5.out 0).trans rfl; have x1 : w5.cell? ⟨gr, 1, none⟩ = some (.string sTemp) := (blk_cell HR5.out 1).trans rfl; have x2 : w5.cell? ⟨gr, 2, none⟩ = some (.int .i64 1) := (blk_cell HR5.out 2).trans rfl; have x3 : w5.cell? ⟨gr, 3, none⟩ = some (.int .i64 60) := (blk_cell HR5.out 3).trans rfl; have x4 : w5.cell? ⟨gr, 4, none⟩ = some (.int .i64 0) := (blk_cell HR5.out 4).trans rfl; have x5 : w5.cell? ⟨gr, 5, none⟩ = some (.int .i64 2) := (blk_cell HR5.out 5).trans rfl;  clear hb) | (go_at_call 23; (with_reducible refine (plenumlaw41_reading.calls 110 20000 1 20000 0 110 w5 (Glob.below HG.out HB5.out) rfl).mono ?_); rintro e w6 ⟨rfl, hb⟩; have HI6 := Aside0.mk (HI5.out.below hb); have HB6 := Aside0.mk (below_step HB5.out hb); have HR6 := Aside0.mk (blk_below HR5.out hb); clear x0 x1 x2 x3 x4 x5; have x0 : w6.cell? ⟨gr, 0, none⟩ = some (.string sLog) := (blk_cell HR6.out 0).trans rfl; have x1 : w6.cell? ⟨gr, 1, none⟩ = some (.string sTemp) := (blk_cell HR6.out 1).trans rfl; have x2 : w6.cell? ⟨gr, 2, none⟩ = some (.int .i64 1) := (blk_cell HR6.out 2).trans rfl; have x3 : w6.cell? ⟨gr, 3, none⟩ = some (.int .i64 60) := (blk_cell HR6.out 3).trans rfl; have x4 : w6.cell? ⟨gr, 4, none⟩ = some (.int .i64 0) := (blk_cell HR6.out 4).trans rfl; have x5 : w6.cell? ⟨gr, 5, none⟩ = some (.int .i64 2) := (blk_cell HR6.out 5).trans rfl;  clear hb) | (go_at_call 15; (with_reducible refine (obs_calls w.heap.size g aL0 1 20000 0 110 w6 HI6.out HB6.out.size okaL0 (by decide)).mono ?_); rintro e w7 ⟨d, he, hi, hb, hk⟩; rw [ob1 d] at he hi; replace he : e = .returned (.tuple #[.int .i64 0, .int .i64 0]) := he; subst he; have HR7 := Aside0.mk (hk.keep _ _ _ HR6.out (by decide) HNE.out); have HI7 := Aside0.mk (show LogAt w.heap.size g aL1 w7 from hi); have HB7 := Aside0.mk (HB6.out.trans hb); clear x0 x1 x2 x3 x4 x5; have x0 : w7.cell? ⟨gr, 0, none⟩ = some (.string sLog) := (blk_cell HR7.out 0).trans rfl; have x1 : w7.cell? ⟨gr, 1, none⟩ = some (.string sTemp) := (blk_cell HR7.out 1).trans rfl; have x2 : w7.cell? ⟨gr, 2, none⟩ = some (.int .i64 1) := (blk_cell HR7.out 2).trans rfl; have x3 : w7.cell? ⟨gr, 3, none⟩ = some (.int .i64 60) := (blk_cell HR7.out 3).trans rfl; have x4 : w7.cell? ⟨gr, 4, none⟩ = some (.int .i64 0) := (blk_cell HR7.out 4).trans rfl; have x5 : w7.cell? ⟨gr, 5, none⟩ = some (.int .i64 2) := (blk_cell HR7.out 5).trans rfl;  clear hi hb hk) | (go_at_call 23; (with_reducible refine (plenumlaw41_reading.calls 200 21000 1 21000 0 200 w7 (Glob.below HG.out HB7.out) rfl).mono ?_); rintro e w8 ⟨rfl, hb⟩; have HI8 := Aside0.mk (HI7.out.below hb); have HB8 := Aside0.mk (below_step HB7.out hb); have HR8 := Aside0.mk (blk_below HR7.out hb); clear x0 x1 x2 x3 x4 x5; have x0 : w8.cell? ⟨gr, 0, none⟩ = some (.string sLog) := (blk_cell HR8.out 0).trans rfl; have x1 : w8.cell? ⟨gr, 1, none⟩ = some (.string sTemp) := (blk_cell HR8.out 1).trans rfl; have x2 : w8.cell? ⟨gr, 2, none⟩ = some (.int .i64 1) := (blk_cell HR8.out 2).trans rfl; have x3 : w8.cell? ⟨gr, 3, none⟩ = some (.int .i64 60) := (blk_cell HR8.out 3).trans rfl; have x4 : w8.cell? ⟨gr, 4, none⟩ = some (.int .i64 0) := (blk_cell HR8.out 4).trans rfl; have x5 : w8.cell? ⟨gr, 5, none⟩ = some (.int .i64 2) := (blk_cell HR8.out 5).trans rfl;  clear hb) | (go_at_call 15; (with_reducible refine (obs_calls w.heap.size g aL1 1 21000 0 200 w8 HI8.out HB8.out.size okaL1 (by decide)).mono ?_); rintro e w9 ⟨d, he, hi, hb, hk⟩; rw [ob2 d] at he hi; replace he : e = .returned (.tuple #[.int .i64 2, .int .i64 0]) := he; subst he; have HR9 := Aside0.mk (hk.keep _ _ _ HR8.out (by decide) HNE.out); have HI9 := Aside0.mk (show LogAt w.heap.size g aL2 w9 from hi); have HB9 := Aside0.mk (HB8.out.trans hb); clear x0 x1 x2 x3 x4 x5; have x0 : w9.cell? ⟨gr, 0, none⟩ = some (.string sLog) := (blk_cell HR9.out 0).trans rfl; have x1 : w9.cell? ⟨gr, 1, none⟩ = some (.string sTemp) := (blk_cell HR9.out 1).trans rfl; have x2 : w9.cell? ⟨gr, 2, none⟩ = some (.int .i64 1) := (blk_cell HR9.out 2).trans rfl; have x3 : w9.cell? ⟨gr, 3, none⟩ = some (.int .i64 60) := (blk_cell HR9.out 3).trans rfl; have x4 : w9.cell? ⟨gr, 4, none⟩ = some (.int .i64 0) := (blk_cell HR9.out 4).trans rfl; have x5 : w9.cell? ⟨gr, 5, none⟩ = some (.int .i64 2) := (blk_cell HR9.out 5).trans rfl;  clear hi hb hk) | (go_at_call 23; (with_reducible refine (plenumlaw41_reading.calls 240 22000 1 22000 0 240 w9 (Glob.below HG.out HB9.out) rfl).mono ?_); rintro e w10 ⟨rfl, hb⟩; have HI10 := Aside0.mk (HI9.out.below hb); have HB10 := Aside0.mk (below_step HB9.out hb); have HR10 := Aside0.mk (blk_below HR9.out hb); clear x0 x1 x2 x3 x4 x5; have x0 : w10.cell? ⟨gr, 0, none⟩ = some (.string sLog) := (blk_cell HR10.out 0).trans rfl; have x1 : w10.cell? ⟨gr, 1, none⟩ = some (.string sTemp) := (blk_cell HR10.out 1).trans rfl; have x2 : w10.cell? ⟨gr, 2, none⟩ = some (.int .i64 1) := (blk_cell HR10.out 2).trans rfl; have x3 : w10.cell? ⟨gr, 3, none⟩ = some (.int .i64 60) := (blk_cell HR10.out 3).trans rfl; have x4 : w10.cell? ⟨gr, 4, none⟩ = some (.int .i64 0) := (blk_cell HR10.out 4).trans rfl; have x5 : w10.cell? ⟨gr, 5, none⟩ = some (.int .i64 2) := (blk_cell HR10.out 5).trans rfl;  clear hb) | (go_at_call 15; (with_reducible refine (obs_calls w.heap.size g aL2 1 22000 0 240 w10 HI10.out HB10.out.size okaL2 (by decide)).mono ?_); rintro e w11 ⟨d, he, hi, hb, hk⟩; rw [ob3 d] at he hi; replace he : e = .returned (.tuple #[.int .i64 1, .int .i64 0]) := he; subst he; have HR11 := Aside0.mk (hk.keep _ _ _ HR10.out (by decide) HNE.out); have HI11 := Aside0.mk (show LogAt w.heap.size g aL3 w11 from hi); have HB11 := Aside0.mk (HB10.out.trans hb); clear x0 x1 x2 x3 x4 x5; have x0 : w11.cell? ⟨gr, 0, none⟩ = some (.string sLog) := (blk_cell HR11.out 0).trans rfl; have x1 : w11.cell? ⟨gr, 1, none⟩ = some (.string sTemp) := (blk_cell HR11.out 1).trans rfl; have x2 : w11.cell? ⟨gr, 2, none⟩ = some (.int .i64 1) := (blk_cell HR11.out 2).trans rfl; have x3 : w11.cell? ⟨gr, 3, none⟩ = some (.int .i64 60) := (blk_cell HR11.out 3).trans rfl; have x4 : w11.cell? ⟨gr, 4, none⟩ = some (.int .i64 0) := (blk_cell HR11.out 4).trans rfl; have x5 : w11.cell? ⟨gr, 5, none⟩ = some (.int .i64 2) := (blk_cell HR11.out 5).trans rfl;  clear hi hb hk) | (go_at_call 13; (with_reducible refine (after_calls w.heap.size g aL3 0 10 w11 HI11.out (by decide) (by decide) (by decide)).mono ?_); rintro e w12 hp; rw [af1] at hp; obtain ⟨vm, rfl, hr, hb⟩ := hp; obtain ⟨Am, cm, em, hcm, hCm⟩ := Kd.R_reads hr; have em2 : vm = .slice Am 3 cm := em; clear em; subst em2; have HM12 := Aside0.mk hr; have HI12 := Aside0.mk (HI11.out.below hb); have HB12 := Aside0.mk (below_step HB11.out hb); have HR12 := Aside0.mk (blk_below HR11.out hb); clear x0 x1 x2 x3 x4 x5; have x0 : w12.cell? ⟨gr, 0, none⟩ = some (.string sLog) := (blk_cell HR12.out 0).trans rfl; have x1 : w12.cell? ⟨gr, 1, none⟩ = some (.string sTemp) := (blk_cell HR12.out 1).trans rfl; have x2 : w12.cell? ⟨gr, 2, none⟩ = some (.int .i64 1) := (blk_cell HR12.out 2).trans rfl; have x3 : w12.cell? ⟨gr, 3, none⟩ = some (.int .i64 60) := (blk_cell HR12.out 3).trans rfl; have x4 : w12.cell? ⟨gr, 4, none⟩ = some (.int .i64 0) := (blk_cell HR12.out 4).trans rfl; have x5 : w12.cell? ⟨gr, 5, none⟩ = some (.int .i64 2) := (blk_cell HR12.out 5).trans rfl;  clear hb hr hcm hCm))
 obtain ⟨sv, HSV⟩ : ∃ s, Aside0 (strOfNums (saveB 3 240 [aR2, aR3]) = s) := ⟨_, ⟨rfl⟩⟩
 have HRS := Aside0.mk (show restS sv 2 = some (3, 240, [aR2, aR3]) by rw [← HSV.out]; exact rs1)
 have HSZ := Aside0.mk (show sv.size ≤ 140737488355327 by rw [← HSV.out]; rw [strOfNums_size]; exact Nat.le_trans (show (saveB 3 240 [aR2, aR3]).length ≤ 1000 from Nat.le_of_ble_eq_true (by kernel_rfl)) (by decide))
 have HI13 := Aside0.mk HI12.out.drew
 have HB13 := Aside0.mk (below_drew1 HB12.out)
 have HR13 := Aside0.mk (blk_drew HR12.out)
 have HM13 := Aside0.mk (Kd.R_drew HM12.out)
 refine start_ (n := 9) (S := fun w' => w'.cell? ⟨gr, 0, none⟩ = some (.string sLog) ∧ w'.cell? ⟨gr, 1, none⟩ = some (.string sTemp) ∧ w'.cell? ⟨gr, 2, none⟩ = some (.int .i64 1) ∧ w'.cell? ⟨gr, 3, none⟩ = some (.int .i64 60) ∧ w'.cell? ⟨gr, 4, none⟩ = some (.int .i64 0) ∧ w'.cell? ⟨gr, 5, none⟩ = some (.int .i64 2)) (ds := []) #[Yn, Yn, Yn, Yn, Yn, Yn, Yn, Yn, Yn] (by kernel_rfl) rfl rfl ⟨x0, x1, x2, x3, x4, x5⟩ (fun hHeld => ?_)
 generalize w12.drew = w13 at HI13 HB13 HR13 HM13 hHeld ⊢
 refine pure_ (i := 1) (N := some 57) (v := ?_) (a' := ?_) (Bz 9 0x2) rfl rfl (by kernel_rfl) (fun _ _ _ h => h) (Or.inl ⟨by rfl, ?_⟩) ?_ ?_
 rotate_left
 ·intro w'
  go_simp
  with_reducible rfl
 rotate_left
 ·simp only [Act.put, Z1, Z2, Z3, i64_w, i32_w]
  rfl
 refine take_ (i := 0) (N := some 56) (v := ?_) (a' := ?_) (Bz 9 0x3) rfl rfl (by kernel_rfl) (fun _ _ _ h => h) (Or.inl ⟨by rfl, ?_⟩) hHeld ?_ ?_
 rotate_left
 ·rintro w' ⟨s0, s1, s2, s3, s4, s5⟩
  go_simp
  with_reducible rfl
 rotate_left
 ·simp only [Act.put, Z1, Z2, Z3, i64_w, i32_w]
  rfl
 refine one_ (i := 2) (N := some 58) #[Y, Y, Y, Yn, Yn, Yn, Yn, Yn, Yn] rfl rfl (by kernel_rfl) (by decide) (fun K hK => ?_)
 refine goes_ Tryd.func22 (by kernel_rfl) rfl #[.pointer (some ⟨g, 0, none⟩)] (by rfl) rfl rfl (by simp only [List.map_toArray, List.map_cons, List.map_nil]; rfl) ?_
 with_reducible refine (save_calls w.heap.size g aL3 w13 (Glob.below HG.out HB13.out) HI13.out (Nat.lt_of_lt_of_le H0.out HB13.out.size) (by decide) okR).mono ?_
 rintro e w14 ⟨rfl, hb⟩
 refine ⟨_, rfl, ?_⟩
 rw [show strOfNums (saveB aL3.total aL3.now aL3.recs) = sv from HSV.out]
 have HI14 := Aside0.mk (HI13.out.below hb)
 have HB14 := Aside0.mk (below_step HB13.out hb)
 have HR14 := Aside0.mk (blk_below HR13.out hb)
 have HM14 := Aside0.mk (Kd.R_below HM13.out hb)
 clear hb
 refine hK.out _ _ ⟨(blk_cell HR14.out 0).trans rfl, (blk_cell HR14.out 1).trans rfl, (blk_cell HR14.out 2).trans rfl, (blk_cell HR14.out 3).trans rfl, (blk_cell HR14.out 4).trans rfl, (blk_cell HR14.out 5).trans rfl⟩ (fun hHeld => ?_)
 clear hK K
 refine norm_ (a' := ?_) ?_ ?_
 rotate_left
 ·show Act.put _ (some 58) _ = _
  simp only [Act.put, Z1, Z2, Z3, i64_w, i32_w]
  rfl
 refine one_ (i := 3) (N := some 59) #[Y, Y, Y, Y, Yn, Yn, Yn, Yn, Yn] rfl rfl (by kernel_rfl) (by decide) (fun K hK => ?_)
 refine goes_ Tryd.func19 (by kernel_rfl) rfl #[.agg #[.string sLog, .string sTemp, .int .i64 1, .int .i64 60, .int .i64 0, .int .i64 2], .string sv] (by rfl) rfl rfl (by simp only [List.map_toArray, List.map_cons, List.map_nil]; rfl) ?_
 with_reducible refine (restore_calls sLog sTemp 1 60 0 2 sv w14 (Glob.below HG.out HB14.out) HSZ.out).mono ?_
 rintro e w15 hp
 rw [HRS.out] at hp
 obtain ⟨hb, g2, rfl, hk⟩ := hp
 refine ⟨_, rfl, ?_⟩
 have HK15 := Aside0.mk (show LogAt w14.heap.size g2 aK w15 from hk)
 have HBB15 := Aside0.mk hb
 have HR15 := Aside0.mk (blk_below HR14.out hb)
 clear hb hk
 refine hK.out _ _ ⟨(blk_cell HR15.out 0).trans rfl, (blk_cell HR15.out 1).trans rfl, (blk_cell HR15.out 2).trans rfl, (blk_cell HR15.out 3).trans rfl, (blk_cell HR15.out 4).trans rfl, (blk_cell HR15.out 5).trans rfl⟩ (fun hHeld => ?_)
 clear hK K
 refine norm_ (a' := ?_) ?_ ?_
 rotate_left
 ·show Act.put _ (some 59) _ = _
  simp only [Act.put, Z1, Z2, Z3, i64_w, i32_w]
  rfl
 refine pure_ (i := 4) (N := some 55) (v := ?_) (a' := ?_) (Bz 9 0x1f) rfl rfl (by kernel_rfl) (fun _ _ _ h => h) (Or.inl ⟨by rfl, ?_⟩) ?_ ?_
 rotate_left
 ·intro w'
  go_simp
  with_reducible rfl
 rotate_left
 ·simp only [Act.put, Z1, Z2, Z3, i64_w, i32_w]
  rfl
 refine pure_ (i := 5) (N := some 60) (v := ?_) (a' := ?_) (Bz 9 0x3f) rfl rfl (by kernel_rfl) (fun _ _ _ h => h) (Or.inl ⟨by rfl, ?_⟩) ?_ ?_
 rotate_left
 ·intro w'
  go_simp
  with_reducible rfl
 rotate_left
 ·simp only [Act.put, Z1, Z2, Z3, i64_w, i32_w]
  rfl
 refine pure_ (i := 6) (N := some 61) (v := ?_) (a' := ?_) (Bz 9 0x7f) rfl rfl (by kernel_rfl) (fun _ _ _ h => h) (Or.inl ⟨by rfl, ?_⟩) ?_ ?_
 rotate_left
 ·intro w'
  go_simp
  with_reducible rfl
 rotate_left
 ·simp only [Act.put, Z1, Z2, Z3, i64_w, i32_w]
  rfl
 refine pure_ (i := 7) (N := some 11) (v := ?_) (a' := ?_) (Bz 9 0xff) rfl rfl (by kernel_rfl) (fun _ _ _ h => h) (Or.inl ⟨by rfl, ?_⟩) ?_ ?_
 rotate_left
 ·intro w'
  go_simp
  with_reducible rfl
 rotate_left
 ·simp only [Act.put, Z1, Z2, Z3, i64_w, i32_w]
  rfl
 refine pure_ (i := 8) (N := some 12) (v := ?_) (a' := ?_) (Bz 9 0x1ff) rfl rfl (by kernel_rfl) (fun _ _ _ h => h) (Or.inl ⟨by rfl, ?_⟩) ?_ ?_
 rotate_left
 ·intro w'
  go_simp
  with_reducible rfl
 rotate_left
 ·simp only [Act.put, Z1, Z2, Z3, i64_w, i32_w]
  rfl
 refine done_ (by kernel_rfl) ?_
 clear x0 x1 x2 x3 x4 x5 hHeld
 go_wp2_with (go_at_call 16; (with_reducible refine (tick_calls w14.heap.size g2 aK 500 w15 HK15.out HBB15.out.size okaK (by decide)).mono ?_); rintro e w16 ⟨he, hi, hb, hk⟩; rw [tk1] at he hi; replace he : e = .returned (.tuple #[.int .i64 0, .int .i64 0]) := he; subst he; have HK16 := Aside0.mk (show LogAt w14.heap.size g2 aK2 w16 from hi); have HBB16 := Aside0.mk (HBB15.out.trans hb); have HI16 := Aside0.mk (HI14.out.below HBB16.out); have HM16 := Aside0.mk (Kd.R_below HM14.out HBB16.out); clear hi hb hk; obtain ⟨_, _, hCm⟩ := Kd.R_reads' HM16.out; obtain ⟨⟨ad, ea⟩, hz⟩ := elemA hCm; subst ea; obtain ⟨z0, z1, z2, z3, z4, z5, y1⟩ := hz ad rfl; clear hz; clear hCm)
 go_wp2_with (first | (go_at_call 12; (with_reducible refine (total_calls w.heap.size g aL3 w16 HI16.out).mono ?_); rintro e wq ⟨he, rfl⟩; replace he : e = .returned (.int .i64 3) := he; subst he) | (go_at_call 24; (with_reducible refine (trigE_calls w.heap.size g aL3 300 _ HI16.out (by decide) (by decide)).mono ?_); rintro e wq2 ⟨rfl, rfl⟩) | (go_at_call 14; (with_reducible refine (records_calls w14.heap.size g2 aK2 _ HK16.out (by decide)).mono ?_); rintro e w17 ⟨v17, rfl, hr, hb⟩; obtain ⟨A17, c17, e17, hc17, hC17⟩ := Kd.R_reads hr; have e17b : v17 = .slice A17 2 c17 := e17; clear e17; subst e17b; have HV17 := Aside0.mk hr; have HI17 := Aside0.mk (HI16.out.below hb); have HBB17 := Aside0.mk (below_step HBB16.out hb); clear hb hr hc17 hC17) | (go_at_call 14; (with_reducible refine (records_calls w.heap.size g aL3 w17 HI17.out (by decide)).mono ?_); rintro e w18 ⟨v18, rfl, hr, hb⟩; obtain ⟨A18, c18, e18, hc18, hC18⟩ := Kd.R_reads hr; have e18b : v18 = .slice A18 2 c18 := e18; clear e18; subst e18b; have HV18 := Aside0.mk hr; have HV17b := Aside0.mk (Kd.R_below HV17.out hb); have HBB18 := Aside0.mk (below_step HBB17.out hb); have HC1 := Aside0.mk (show Kd.C k44 w18 A17 2 [aR2, aR3] from (Kd.R_reads' HV17b.out).2.2); have HC2 := Aside0.mk (show Kd.C k44 w18 A18 2 [aR2, aR3] from (Kd.R_reads' HV18.out).2.2); have HC3 := Aside0.mk (show 2 ≤ c17 from (Kd.R_reads' HV17b.out).2.1); have HC4 := Aside0.mk (show 2 ≤ c18 from (Kd.R_reads' HV18.out).2.1); clear hb hr hc18 hC18) | (go_at_call 21; (with_reducible refine (smA A17 A18 c17 c18 w18 (Glob.below HG.out (below_step HB14.out HBB18.out)) HC1.out HC3.out HC2.out HC4.out).mono ?_); rintro e w19 ⟨rfl, nd, rfl⟩))
 go_ret
 exact ⟨rfl, by have := below_step HB14.out HBB18.out; exact pw_below_drewN this nd⟩
end Go.Proofs.YtbccjcdmpiolpaaDoor.T
end
section
namespace Go.Proofs.YtbccjcdmpiolpaaDoor.T
open Go.RowKit Go.Proofs.YtbccjcdmpiolpaaDoor.Pure Go.Proofs.YtbccjcdmpiolpaaDoorW.PrintWords Go.Proofs.YtbccjcdmpiolpaaDoorW.PrintLast Go.Proofs.YtbccjcdmpiolpaaDoorW.PrintMore
set_option linter.unusedVariables false
set_option linter.unusedSimpArgs false
attribute [local go_sem] max2_int min2_int max_two min_two
structure RB (w : World) (B g : Nat) (L : Lg) (wr : World) : Prop where
 log : LogAt B g L wr
 hi : B ≤ wr.heap.size
 bel : Below w.heap.size w wr
theorem RB.below {w wr w1 : World} {B g : Nat} {L : Lg} (h : RB w B g L wr) (hb : Below wr.heap.size wr w1) : RB w B g L w1 := ⟨h.log.below hb, Nat.le_trans h.hi hb.size, below_step h.bel hb⟩
structure RK (w : World) (B g : Nat) (L : Lg) (A : List S44) (Am Ar : Option Addr) (wr : World) : Prop where
 rb : RB w B g L wr
 ca : Kd.C k44 wr Am A.length A
 cr : Kd.C k44 wr Ar L.recs.length L.recs
theorem RK.below {w wr w1 : World} {B g : Nat} {L : Lg} {A : List S44} {Am Ar : Option Addr} (h : RK w B g L A Am Ar wr) (hb : Below wr.heap.size wr w1) : RK w B g L A Am Ar w1 := ⟨h.rb.below hb, Kd.C_below h.ca hb, Kd.C_below h.cr hb⟩
theorem RK.drew {w wr : World} {B g : Nat} {L : Lg} {A : List S44} {Am Ar : Option Addr} (h : RK w B g L A Am Ar wr) : RK w B g L A Am Ar wr.drew := h.below (below_drew1 (Below.refl _ _))
structure RQ (nm pt : ByteArray) (way iv st sz i : Int) (w : World) (B g : Nat) (L : Lg) (H : List S44) (wr : World) : Prop where
 log : LogAt B g L wr
 hi : B ≤ wr.heap.size
 bel : Below w.heap.size w wr
 li : LgI nm pt way iv st sz i L H
theorem pass_nn {L : Lg} {u : Int} (ok : OkL L) (hu : L.now ≤ u ∧ u ≤ 10000000000) : 0 ≤ (L.pass u).2 := by
 by_cases k : L.way = 1 ∧ L.valid = true
 ·have e : (L.pass u).2 = u / L.iv - L.now / L.iv := by unfold Lg.pass; rw [if_pos k]
  have hiv := ok.iv k.1
  have := Int.ediv_le_ediv (show 0 < L.iv by omega) hu.1
  omega
 ·have e : (L.pass u).2 = 0 := by unfold Lg.pass; rw [if_neg k]
  omega
theorem do_le {L : Lg} {k v q a m : Int} {M : Lg × Int × Int} (ok : OkL L) (hd : DoRes L k v q a m M) (ha : a ≤ 10000000000) : L.total ≤ M.1.total := by
 cases hd with
 | obs d =>
  unfold Lg.obs
  by_cases k0 : a ≤ L.now
  ·rw [if_pos k0]; exact Int.le_refl _
  rw [if_neg k0]
  have po := pass_ok ok (u := a - 1) ⟨by omega, by omega⟩
  have h0 := pass_nn ok (u := a - 1) ⟨by omega, by omega⟩
  split
  ·show L.total ≤ (L.pass (a - 1)).1.total + 1
   rw [po.tot]; omega
  ·show L.total ≤ (L.pass (a - 1)).1.total
   rw [po.tot]; omega
 | tick =>
  unfold Lg.tick
  by_cases k0 : a < L.now
  ·rw [if_pos k0]; exact Int.le_refl _
  rw [if_neg k0]
  have po := pass_ok ok (u := a) ⟨by omega, by omega⟩
  have h0 := pass_nn ok (u := a) ⟨by omega, by omega⟩
  show L.total ≤ (L.pass a).1.total
  rw [po.tot]; omega
 | trig g0 g1 =>
  show L.total ≤ (L.trig a).1.total
  unfold Lg.trig
  by_cases k0 : a < L.now
  ·rw [if_pos k0]; exact Int.le_refl _
  rw [if_neg k0]
  by_cases k1 : L.way ≠ 3
  ·rw [if_pos k1]; exact Int.le_refl _
  rw [if_neg k1]
  by_cases k2 : L.valid = false
  ·rw [if_pos k2]; exact Int.le_refl _
  rw [if_neg k2]
  have po := pass_ok ok (u := a) ⟨by omega, by omega⟩
  have h0 := pass_nn ok (u := a) ⟨by omega, by omega⟩
  show L.total ≤ (L.pass a).1.total + 1
  rw [po.tot]; omega
def seqR : Code → Code | .seq _ b => b | c => c
def seqL : Code → Code | .seq a _ => a | c => c
def blkC : Code → Code | .block _ b => b | c => c
def lopC : Code → Code | .loop b => b | c => c
def cut3 (c : Code) : Code := blkC (seqR (seqR (blkC (seqL (seqR (lopC (blkC (seqR (seqL (seqR (seqR (seqR (seqR (seqR c))))))))))))))
set_option maxHeartbeats 16000000 in
set_option maxRecDepth 100000 in
theorem reader_inner {nm pt : ByteArray} {way iv st sz n : Int} {w : World} {B g : Nat} {L5 : Lg} {H5 : List S44} {most last : Int} {Q : Exit → Act → World → Prop} {c : Code} (hc : Tryd.f3.body.map cut3 = some c) {v0 v1 v2 v3 v5 v6 v7 v8 v9 v10 v11 v12 v15 v16 v17 v18 v19 v20 v21 v22 v23 v24 v25 v26 v27 v28 v29 v30 v31 v32 v33 v34 v35 v36 v37 v38 v39 v40 v41 v42 v43 v44 v45 v46 v47 v48 v49 v50 v51 v52 v53 v54 v55 v56 v57 v58 v59 v60 v61 v62 v63 v64 v65 v66 v67 v68 v69 v70 v71 v72 v73 v74 v75 v76 v77 v78 v79 v80 v81 v82 v83 v84 v85 v86 v87 v88 v89 v90 v91 v92 v93 v94 v95 v96 v97 v98 v99 v100 v101 v102 v103 v104 v105 v106 v107 v108 v109 v110 v111 v112 v113 v114 v115 v116 v117 v118 v119 v120 v121 v122 v123 v124 v125 v126 v127 v128 v129 v130 v131 v132 v133 v134 v135 v136 v137 v138 v139 v140 v141 v142 v143 v144 v145 v146 v147 v148 v149 v150 v151 v152 v153 v154 v155 v156 v157 v158 v159 v160 v161 v162 v163 v164 v165 v166 v167 v168 v169 v170 v171 v172 v173 v174 v175 v176 v177 v178 v179 v180 v181 v182 v183 : Value} {wr : World}
  (hli : LgI nm pt way iv st sz n L5 H5) (hm1 : 1 ≤ most) (hmb : most ≤ 9223372036854775807) (hl0 : 0 ≤ last ∧ last ≤ L5.total) (hrj : RB w B g L5 wr)
  (hP : ∀ c (a : Act) (d : Option Tmp) (v : Value) w, Q (.panic c) (a.put d v) w → Q (.panic c) a w) (hQ : ∀ (u12 u16 u17 u18 u19 u20 u78 u79 u80 u81 u82 u83 u84 u85 u86 u87 u88 u89 u90 u91 u92 u93 u94 u95 u96 u97 u98 u99 u100 u101 u102 u103 u104 u105 u106 u107 u108 u109 u110 u111 u112 u113 u114 u115 u116 u117 u118 u119 u120 u121 u122 u123 u124 u125 u126 u127 u128 u129 u130 u131 u132 u133 u134 u135 u136 u137 u138 u139 u140 u141 u142 u143 u144 u145 u146 u147 u148 u149 u150 u151 u152 u153 u154 u155 u156 u157 u158 u159 u160 u161 u162 u163 u164 u165 u166 u167 u168 u169 u170 u171 u172 u173 u174 u175 u176 u177 u178 u179 : Value) (w' : World), RB w B g L5 w' → Q .normal ⟨List.toArray (v0 :: v1 :: v2 :: v3 :: .int .i64 most :: v5 :: v6 :: v7 :: v8 :: v9 :: v10 :: v11 :: u12 :: .pointer (some ⟨g, 0, none⟩) :: .int .i64 L5.total :: v15 :: u16 :: u17 :: u18 :: u19 :: u20 :: v21 :: v22 :: v23 :: v24 :: v25 :: v26 :: v27 :: v28 :: v29 :: v30 :: v31 :: v32 :: v33 :: v34 :: v35 :: v36 :: v37 :: v38 :: v39 :: v40 :: v41 :: v42 :: v43 :: v44 :: v45 :: v46 :: v47 :: v48 :: v49 :: v50 :: v51 :: v52 :: v53 :: v54 :: v55 :: v56 :: v57 :: v58 :: v59 :: v60 :: v61 :: v62 :: v63 :: v64 :: v65 :: v66 :: v67 :: v68 :: v69 :: v70 :: v71 :: v72 :: v73 :: v74 :: v75 :: v76 :: v77 :: u78 :: u79 :: u80 :: u81 :: u82 :: u83 :: u84 :: u85 :: u86 :: u87 :: u88 :: u89 :: u90 :: u91 :: u92 :: u93 :: u94 :: u95 :: u96 :: u97 :: u98 :: u99 :: u100 :: u101 :: u102 :: u103 :: u104 :: u105 :: u106 :: u107 :: u108 :: u109 :: u110 :: u111 :: u112 :: u113 :: u114 :: u115 :: u116 :: u117 :: u118 :: u119 :: u120 :: u121 :: u122 :: u123 :: u124 :: u125 :: u126 :: u127 :: u128 :: u129 :: u130 :: u131 :: u132 :: u133 :: u134 :: u135 :: u136 :: u137 :: u138 :: u139 :: u140 :: u141 :: u142 :: u143 :: u144 :: u145 :: u146 :: u147 :: u148 :: u149 :: u150 :: u151 :: u152 :: u153 :: u154 :: u155 :: u156 :: u157 :: u158 :: u159 :: u160 :: u161 :: u162 :: u163 :: u164 :: u165 :: u166 :: u167 :: u168 :: u169 :: u170 :: u171 :: u172 :: u173 :: u174 :: u175 :: u176 :: u177 :: u178 :: u179 :: v180 :: v181 :: v182 :: v183 :: []), []⟩ w') :
  Code.wp Tryd.prog c (Exit.inBlock 2 Q) ⟨List.toArray (v0 :: v1 :: v2 :: v3 :: .int .i64 most :: v5 :: v6 :: v7 :: v8 :: v9 :: v10 :: v11 :: v12 :: .pointer (some ⟨g, 0, none⟩) :: .int .i64 last :: v15 :: v16 :: v17 :: v18 :: v19 :: v20 :: v21 :: v22 :: v23 :: v24 :: v25 :: v26 :: v27 :: v28 :: v29 :: v30 :: v31 :: v32 :: v33 :: v34 :: v35 :: v36 :: v37 :: v38 :: v39 :: v40 :: v41 :: v42 :: v43 :: v44 :: v45 :: v46 :: v47 :: v48 :: v49 :: v50 :: v51 :: v52 :: v53 :: v54 :: v55 :: v56 :: v57 :: v58 :: v59 :: v60 :: v61 :: v62 :: v63 :: v64 :: v65 :: v66 :: v67 :: v68 :: v69 :: v70 :: v71 :: v72 :: v73 :: v74 :: v75 :: v76 :: v77 :: v78 :: v79 :: v80 :: v81 :: v82 :: v83 :: v84 :: v85 :: v86 :: v87 :: v88 :: v89 :: v90 :: v91 :: v92 :: v93 :: v94 :: v95 :: v96 :: v97 :: v98 :: v99 :: v100 :: v101 :: v102 :: v103 :: v104 :: v105 :: v106 :: v107 :: v108 :: v109 :: v110 :: v111 :: v112 :: v113 :: v114 :: v115 :: v116 :: v117 :: v118 :: v119 :: v120 :: v121 :: v122 :: v123 :: v124 :: v125 :: v126 :: v127 :: v128 :: v129 :: v130 :: v131 :: v132 :: v133 :: v134 :: v135 :: v136 :: v137 :: v138 :: v139 :: v140 :: v141 :: v142 :: v143 :: v144 :: v145 :: v146 :: v147 :: v148 :: v149 :: v150 :: v151 :: v152 :: v153 :: v154 :: v155 :: v156 :: v157 :: v158 :: v159 :: v160 :: v161 :: v162 :: v163 :: v164 :: v165 :: v166 :: v167 :: v168 :: v169 :: v170 :: v171 :: v172 :: v173 :: v174 :: v175 :: v176 :: v177 :: v178 :: v179 :: v180 :: v181 :: v182 :: v183 :: []), []⟩ wr := by
 have HLI5 := Aside0.mk hli
 have HM1 := Aside0.mk hm1
 have HMB := Aside0.mk hmb
 have HTO := Aside0.mk hl0
 have HRJ := Aside0.mk hrj
 have HQ := Aside0.mk hQ
 have HP := Aside0.mk hP
 have hu44 := Tryd.underlying44
 have hu30 := Tryd.underlying30
 clear hli hm1 hmb hl0 hrj hQ hP
 dsimp only [Tryd.f3, Option.map, cut3, seqR, seqL, blkC, lopC] at hc
 injection hc with hc
 subst hc
 go_loopg [14] (L5.total - last).toNat (fun kq v14 wq => ∃ (last : Int), v14 = .int .i64 last ∧ Aside0 (0 ≤ last ∧ last + (kq : Int) = L5.total) ∧ Aside0 (RB w B g L5 wq))
 case atStart => exact ⟨last, rfl, ⟨by have h1 := HTO.out; omega⟩, HRJ⟩
 case round =>
  clear HRJ
  obtain ⟨last, rfl, HLL, HJ⟩ := hrel
  have HTT := Aside0.mk (show 0 ≤ L5.total ∧ L5.total ≤ 1000000000000000 by have h1 := HLI5.out.ok.t0; have h2 := HLI5.out.ok.t1; omega)
  cases gk with
  | zero =>
   have hle : last = L5.total := by have h1 := HLL.out; omega
   subst hle
   have q1 : decide (L5.total < L5.total) = false := decide_eq_false (Int.lt_irrefl _)
   go_wp2_with (go_at_call 12; (with_reducible refine (total_calls B g L5 _ HJ.out.log).mono ?_); rintro e wq ⟨rfl, rfl⟩)
   apply HQ.out
   exact HJ.out
  | succ k2 =>
   have q1 : decide (last < L5.total) = true := decide_eq_true (by have h1 := HLL.out; omega)
   obtain ⟨A, haf, hgt⟩ := after_gets HLI5.out.hist HLI5.out.ok HLL.out.1 (by have h1 := HLL.out; omega) HM1.out
   have HAF := Aside0.mk haf
   have HGT := Aside0.mk hgt
   clear haf hgt
   have q2 : ((A.length : Int) == 0) = false := beq_false_of_ne (by have h1 := HGT.out.ne; omega)
   have q3 : decide (most < (A.length : Int)) = false := decide_eq_false (by have h1 := HGT.out.le; omega)
   have q4 : decide (A.length = 0) = false := decide_eq_false (by have h1 := HGT.out.ne; omega)
   have q5 : (A.length == 0) = false := beq_false_of_ne (by have h1 := HGT.out.ne; omega)
   go_wp2_with (first | (go_at_call 12; (with_reducible refine (total_calls B g L5 _ HJ.out.log).mono ?_); rintro e wq ⟨rfl, rfl⟩) | (go_at_call 13; (with_reducible refine (after_calls B g L5 last most _ HJ.out.log (by have h1 := HLI5.out.ok.len; have h2 := HLI5.out.ok.s1; omega) HTT.out HMB.out).mono ?_); rintro e wa hp; rw [HAF.out] at hp; obtain ⟨vm, rfl, hr, hb⟩ := hp; obtain ⟨Am, cm, em, hcm, hCm⟩ := Kd.R_reads hr; have em2 : vm = .slice Am A.length cm := em; clear em; subst em2; have HMC := Aside0.mk (show A.length ≤ cm from hcm); have HMA := Aside0.mk (show Kd.C k44 wa Am A.length A from hCm); have HJa := Aside0.mk (HJ.out.below hb); clear hb hr hcm hCm) | (go_at_call 14; (with_reducible refine (records_calls B g L5 _ HJa.out.log (by have h1 := HLI5.out.ok.len; have h2 := HLI5.out.ok.s1; omega)).mono ?_); rintro e wz ⟨vr, rfl, hr, hb⟩; obtain ⟨Ar, cr, er, hcr, hCr⟩ := Kd.R_reads hr; have erb : vr = .slice Ar L5.recs.length cr := er; clear er; subst erb; have HRC := Aside0.mk (show L5.recs.length ≤ cr from hcr); have HK := Aside0.mk (show RK w B g L5 A Am Ar wz from ⟨HJa.out.below hb, Kd.C_below HMA.out hb, hCr⟩); clear hr hb hcr hCr))
   go_loopg [14, 19] A.length (fun kq v14 v19 wq => ∃ (pv y : Int), v14 = .int .i64 pv ∧ v19 = .int .i64 y ∧ Aside0 (0 ≤ y ∧ y + (kq : Int) = (A.length : Int) ∧ pv = pvOf A last y.toNat ∧ (0 < y → last < pv ∧ pv ≤ L5.total)) ∧ Aside0 (RK w B g L5 A Am Ar wq))
   case atStart => exact ⟨last, 0, rfl, rfl, ⟨by omega, by omega, rfl, fun h => by omega⟩, HK⟩
   case round =>
    clear HJ HJa HK HMA q2 q3 q4 q5
    obtain ⟨pv, y, rfl, rfl, HYY, HK3⟩ := hrel
    cases gk with
    | zero =>
     have q6 : decide (y < (A.length : Int)) = false := decide_eq_false (by have h1 := HYY.out; omega)
     have HNX := Aside0.mk (show last < pv ∧ pv ≤ L5.total from HYY.out.2.2.2 (by have h1 := HYY.out; have h2 := HGT.out.ne; omega))
     go_wp2
     go_roundg (L5.total - pv).toNat
     case measure => have h1 := HNX.out; have h2 := HLL.out; omega
     case rel => exact ⟨pv, rfl, ⟨by have h1 := HNX.out; have h2 := HLL.out; omega⟩, ⟨HK3.out.rb⟩⟩
    | succ k3 =>
     have hlt : y < (A.length : Int) := by have h1 := HYY.out; omega
     have q6 : decide (y < (A.length : Int)) = true := decide_eq_true hlt
     have hyw : wrap64 (y + 1) = y + 1 := by have h1 := HYY.out; have h2 := HGT.out.sz; unfold wrap64; omega
     have p1 : (0 ≤ y) = True := eq_true HYY.out.1
     have p2 : (y < (A.length : Int)) = True := eq_true hlt
     have HGO := Aside0.mk (show Got L5.recs L5.total (rd_T44 A y) pv y.toNat by
      have h1 := HGT.out.all y.toNat (by have h1 := HYY.out; omega)
      rw [Int.toNat_of_nonneg HYY.out.1, ← HYY.out.2.2.1] at h1
      exact h1)
     have HPN := Aside0.mk (show (rd_T44 A y).f0 = pvOf A last (y + 1).toNat by
      rw [show (y + 1).toNat = y.toNat + 1 by have h1 := HYY.out.1; omega]
      show _ = (rd_T44 A (y.toNat : Int)).f0
      rw [Int.toNat_of_nonneg HYY.out.1])
     have HPV := Aside0.mk (show last ≤ pv by
      rcases Int.lt_or_le 0 y with h | h
      ·have := (HYY.out.2.2.2 h).1; omega
      ·rw [HYY.out.2.2.1, show y.toNat = 0 by omega]; exact Int.le_refl _)
     obtain ⟨adm, e7, x0, x1, x2, x3, x4, x5⟩ := at_T44 HK3.out.ca y HYY.out.1 hlt
     subst e7
     obtain ⟨adr, e8, _, _, _, _, _, _⟩ := at_T44 HK3.out.cr 0 (Int.le_refl _) (by have h1 := HGO.out.ne; omega)
     subst e8
     have HZ0 := Aside0.mk (show ∀ wx : World, Kd.C k44 wx (some adr) L5.recs.length L5.recs → wx.cell? adr = some (.int .i64 (rd_T44 L5.recs 0).f0) from fun wx hx => by
      obtain ⟨ad2, e2, z, _⟩ := at_T44 hx 0 (Int.le_refl _) (by have h1 := HGO.out.ne; omega)
      injection e2 with e2
      subst e2
      exact z)
     have n1 : ((L5.recs.length : Int) == 0) = false := beq_false_of_ne (by have h1 := HGO.out.ne; omega)
     have n2 : (0 < (L5.recs.length : Int)) = True := eq_true (by have h1 := HGO.out.ne; omega)
     have n3 : (0 < L5.recs.length) = True := eq_true HGO.out.ne
     have n4 : (L5.recs.length == 0) = false := beq_false_of_ne (by have h1 := HGO.out.ne; omega)
     have HUP := Aside0.mk (And.intro HGO.out.up HGO.out.le)
     by_cases hg : 0 < (rd_T44 A y).f4
     ·obtain ⟨hy0, hgm, hr0⟩ : y.toNat = 0 ∧ rd_T44 A y = ⟨pv + (rd_T44 A y).f4, 0, ⟨0, 0⟩, 0, (rd_T44 A y).f4⟩ ∧ (rd_T44 L5.recs 0).f0 = (rd_T44 A y).f0 + 1 := by
       rcases HGO.out.is with ⟨h1, h2, h3, h4⟩ | ⟨h1, _⟩
       ·exact ⟨h1, h3, h4⟩
       ·omega
      have d0 : decide (0 < y) = false := decide_eq_false (by have h1 := HYY.out.1; omega)
      clear hy0
      generalize rd_T44 A y = m at x0 x1 x2 x3 x4 x5 hg hgm hr0 HPN HUP
      obtain ⟨gp, hgp⟩ : ∃ gp, m.f4 = gp := ⟨_, rfl⟩
      rw [hgp] at hgm hg
      subst hgm
      clear hgp HGO
      dsimp only at x0 x1 x2 x3 x4 x5
      replace HPN : Aside0 (pv + gp = pvOf A last (y + 1).toNat) := HPN
      replace HUP : Aside0 (pv < pv + gp ∧ pv + gp ≤ L5.total) := HUP
      replace hr0 : (rd_T44 L5.recs 0).f0 = pv + gp + 1 := hr0
      have d1 : decide (0 < gp) = true := decide_eq_true hg
      have v1 : wrap64 (pv + gp) = pv + gp := by have h1 := HUP.out; have h2 := HPV.out; have h3 := HLL.out; have h4 := HTT.out; unfold wrap64; omega
      have v2 : wrap64 (pv + gp + 1) = pv + gp + 1 := by have h1 := HUP.out; have h2 := HPV.out; have h3 := HLL.out; have h4 := HTT.out; unfold wrap64; omega
      have d2 : ((rd_T44 L5.recs 0).f0 != pv + gp + 1) = false := by rw [hr0]; exact bne_self_eq_false _
      generalize (rd_T44 L5.recs 0).f0 = r0 at HZ0 d2
      clear hg hr0
      go_wp2_with (first | ((with_reducible refine gate_dst (N := 20) rfl ?_); refine box_event ?hg (N := 20) ?hd (cs := #[.int .i64 0, .int .i64 0, .int .i64 0, .int .i64 0, .int .i64 0, .int .i64 0]) (t := 44) ?hr ?_; (case hd => rfl); (case hg => rfl); (case hr => first | (go_simp; done) | (go_simp; rfl)); intro gy hgy wy hbox hb; have HY3 := Aside0.mk hbox; have HBY := Aside0.mk hb; have HGY := Aside0.mk (Nat.le_of_eq hgy.symm); clear hb hbox hgy) | (refine wpList_store_row rfl 44 (.tmp 20) (.tmp 113) rfl gy #[.int .i64 (pv + gp), .int .i64 0, .int .i64 0, .int .i64 0, .int .i64 0, .int .i64 gp] rfl rfl 44 #[.int .i64 0, .int .i64 0, .int .i64 0, .int .i64 0, .int .i64 0, .int .i64 0] HY3.out (by kernel_rfl) rfl (by simp [Value.oneCell']) ?_; have HY4 := Aside0.mk (setRow_heap _ _ _ #[.int .i64 (pv + gp), .int .i64 0, .int .i64 0, .int .i64 0, .int .i64 0, .int .i64 gp] _ _ HY3.out); have hb4 := below_setRow HBY.out HGY.out #[.int .i64 (pv + gp), .int .i64 0, .int .i64 0, .int .i64 0, .int .i64 0, .int .i64 gp]; have HK4 := Aside0.mk (HK3.out.below hb4); clear hb4; generalize wy.setRow gy #[.int .i64 (pv + gp), .int .i64 0, .int .i64 0, .int .i64 0, .int .i64 0, .int .i64 gp] = wv at HY4 HK4 ⊢;  have y0 := (blk_cell HY4.out 0).trans rfl; have y1 := (blk_cell HY4.out 1).trans rfl; have y2 := (blk_cell HY4.out 2).trans rfl; have y3 := (blk_cell HY4.out 3).trans rfl; have y4 := (blk_cell HY4.out 4).trans rfl; have y5 := (blk_cell HY4.out 5).trans rfl;  skip))
      have Z0v := HZ0.out wv HK4.out.cr
      have HK5 := Aside0.mk HK4.out.drew
      have HY5 := Aside0.mk (blk_drew HY4.out)
      refine start_ (n := 28) (S := fun w' => w'.cell? ⟨gy, 0, none⟩ = some (.int .i64 (pv + gp)) ∧ w'.cell? ⟨gy, 1, none⟩ = some (.int .i64 0) ∧ w'.cell? ⟨gy, 2, none⟩ = some (.int .i64 0) ∧ w'.cell? ⟨gy, 3, none⟩ = some (.int .i64 0) ∧ w'.cell? ⟨gy, 4, none⟩ = some (.int .i64 0) ∧ w'.cell? ⟨gy, 5, none⟩ = some (.int .i64 gp) ∧ w'.cell? adr = some (.int .i64 r0)) (ds := []) #[Yn, Yn, Yn, Yn, Yn, Yn, Yn, Yn, Yn, Yn, Yn, Yn, Yn, Yn, Yn, Yn, Yn, Yn, Yn, Yn, Yn, Yn, Yn, Yn, Yn, Yn, Yn, Yn] (by kernel_rfl) rfl rfl ⟨y0, y1, y2, y3, y4, y5, Z0v⟩ (fun hHeld => ?_)
      generalize wv.drew = w5 at HK5 HY5 hHeld ⊢
      clear y0 y1 y2 y3 y4 y5 Z0v
      refine pure_ (i := 0) (N := some 117) (v := ?_) (a' := ?_) (Bz 28 0x1) rfl rfl (by kernel_rfl) (fun c_ a_ w_ h => HP.out c_ a_ _ _ w_ h) (Or.inl ⟨by rfl, ?_⟩) ?_ ?_
      rotate_left
      ·intro w'
       go_simp
       with_reducible rfl
      rotate_left
      ·simp only [Act.put, Z1, Z2, Z3, i64_w, i32_w]
       rfl
      refine pure_ (i := 1) (N := some 118) (v := ?_) (a' := ?_) (Bz 28 0x3) rfl rfl (by kernel_rfl) (fun c_ a_ w_ h => HP.out c_ a_ _ _ w_ h) (Or.inl ⟨by rfl, ?_⟩) ?_ ?_
      rotate_left
      ·intro w'
       go_simp
       with_reducible rfl
      rotate_left
      ·simp only [Act.put, Z1, Z2, Z3, i64_w, i32_w]
       rfl
      refine pure_ (i := 2) (N := some 119) (v := ?_) (a' := ?_) (Bz 28 0x7) rfl rfl (by kernel_rfl) (fun c_ a_ w_ h => HP.out c_ a_ _ _ w_ h) (Or.inl ⟨by rfl, ?_⟩) ?_ ?_
      rotate_left
      ·intro w'
       go_simp
       with_reducible rfl
      rotate_left
      ·simp only [Act.put, Z1, Z2, Z3, i64_w, i32_w]
       rfl
      refine pure_ (i := 4) (N := some 121) (v := ?_) (a' := ?_) (Bz 28 0x17) rfl rfl (by kernel_rfl) (fun c_ a_ w_ h => HP.out c_ a_ _ _ w_ h) (Or.inl ⟨by rfl, ?_⟩) ?_ ?_
      rotate_left
      ·intro w'
       go_simp
       with_reducible rfl
      rotate_left
      ·simp only [Act.put, Z1, Z2, Z3, i64_w, i32_w]
       rfl
      refine pure_ (i := 5) (N := some 122) (v := ?_) (a' := ?_) (Bz 28 0x37) rfl rfl (by kernel_rfl) (fun c_ a_ w_ h => HP.out c_ a_ _ _ w_ h) (Or.inl ⟨by rfl, ?_⟩) ?_ ?_
      rotate_left
      ·intro w'
       go_simp
       with_reducible rfl
      rotate_left
      ·simp only [Act.put, Z1, Z2, Z3, i64_w, i32_w]
       rfl
      refine pure_ (i := 8) (N := some 125) (v := ?_) (a' := ?_) (Bz 28 0x137) rfl rfl (by kernel_rfl) (fun c_ a_ w_ h => HP.out c_ a_ _ _ w_ h) (Or.inl ⟨by rfl, ?_⟩) ?_ ?_
      rotate_left
      ·intro w'
       go_simp
       with_reducible rfl
      rotate_left
      ·simp only [Act.put, Z1, Z2, Z3, i64_w, i32_w]
       rfl
      refine take_ (i := 3) (N := some 120) (v := ?_) (a' := ?_) (Bz 28 0x13f) rfl rfl (by kernel_rfl) (fun c_ a_ w_ h => HP.out c_ a_ _ _ w_ h) (Or.inl ⟨by rfl, ?_⟩) hHeld ?_ ?_
      rotate_left
      ·rintro w' ⟨s0, s1, s2, s3, s4, s5, s6⟩
       go_simp
       with_reducible rfl
      rotate_left
      ·simp only [Act.put, Z1, Z2, Z3, i64_w, i32_w]
       rfl
      refine take_ (i := 6) (N := some 123) (v := ?_) (a' := ?_) (Bz 28 0x17f) rfl rfl (by kernel_rfl) (fun c_ a_ w_ h => HP.out c_ a_ _ _ w_ h) (Or.inl ⟨by rfl, ?_⟩) hHeld ?_ ?_
      rotate_left
      ·rintro w' ⟨s0, s1, s2, s3, s4, s5, s6⟩
       go_simp
       with_reducible rfl
      rotate_left
      ·simp only [Act.put, Z1, Z2, Z3, i64_w, i32_w]
       rfl
      refine pure_ (i := 7) (N := some 124) (v := ?_) (a' := ?_) (Bz 28 0x1ff) rfl rfl (by kernel_rfl) (fun c_ a_ w_ h => HP.out c_ a_ _ _ w_ h) (Or.inl ⟨by rfl, ?_⟩) ?_ ?_
      rotate_left
      ·intro w'
       go_simp
       with_reducible rfl
      rotate_left
      ·simp only [Act.put, Z1, Z2, Z3, i64_w, i32_w]
       rfl
      refine take_ (i := 9) (N := some 126) (v := ?_) (a' := ?_) (Bz 28 0x3ff) rfl rfl (by kernel_rfl) (fun c_ a_ w_ h => HP.out c_ a_ _ _ w_ h) (Or.inl ⟨by rfl, ?_⟩) hHeld ?_ ?_
      rotate_left
      ·rintro w' ⟨s0, s1, s2, s3, s4, s5, s6⟩
       go_simp
       with_reducible rfl
      rotate_left
      ·simp only [Act.put, Z1, Z2, Z3, i64_w, i32_w]
       rfl
      refine pure_ (i := 10) (N := some 127) (v := ?_) (a' := ?_) (Bz 28 0x7ff) rfl rfl (by kernel_rfl) (fun c_ a_ w_ h => HP.out c_ a_ _ _ w_ h) (Or.inl ⟨by rfl, ?_⟩) ?_ ?_
      rotate_left
      ·intro w'
       go_simp
       with_reducible rfl
      rotate_left
      ·simp only [Act.put, Z1, Z2, Z3, i64_w, i32_w]
       rfl
      refine pure_ (i := 11) (N := some 128) (v := ?_) (a' := ?_) (Bz 28 0xfff) rfl rfl (by kernel_rfl) (fun c_ a_ w_ h => HP.out c_ a_ _ _ w_ h) (Or.inl ⟨by rfl, ?_⟩) ?_ ?_
      rotate_left
      ·intro w'
       go_simp
       with_reducible rfl
      rotate_left
      ·simp only [Act.put, Z1, Z2, Z3, i64_w, i32_w]
       rfl
      refine pure_ (i := 12) (N := some 129) (v := ?_) (a' := ?_) (Bz 28 0x1fff) rfl rfl (by kernel_rfl) (fun c_ a_ w_ h => HP.out c_ a_ _ _ w_ h) (Or.inl ⟨by rfl, ?_⟩) ?_ ?_
      rotate_left
      ·intro w'
       go_simp
       with_reducible rfl
      rotate_left
      ·simp only [Act.put, Z1, Z2, Z3, i64_w, i32_w]
       rfl
      refine pure_ (i := 13) (N := some 130) (v := ?_) (a' := ?_) (Bz 28 0x3fff) rfl rfl (by kernel_rfl) (fun c_ a_ w_ h => HP.out c_ a_ _ _ w_ h) (Or.inl ⟨by rfl, ?_⟩) ?_ ?_
      rotate_left
      ·intro w'
       go_simp
       with_reducible rfl
      rotate_left
      ·simp only [Act.put, Z1, Z2, Z3, i64_w, i32_w]
       rfl
      refine pure_ (i := 14) (N := some 131) (v := ?_) (a' := ?_) (Bz 28 0x7fff) rfl rfl (by kernel_rfl) (fun c_ a_ w_ h => HP.out c_ a_ _ _ w_ h) (Or.inl ⟨by rfl, ?_⟩) ?_ ?_
      rotate_left
      ·intro w'
       go_simp
       with_reducible rfl
      rotate_left
      ·simp only [Act.put, Z1, Z2, Z3, i64_w, i32_w]
       rfl
      refine pure_ (i := 15) (N := some 132) (v := ?_) (a' := ?_) (Bz 28 0xffff) rfl rfl (by kernel_rfl) (fun c_ a_ w_ h => HP.out c_ a_ _ _ w_ h) (Or.inl ⟨by rfl, ?_⟩) ?_ ?_
      rotate_left
      ·intro w'
       go_simp
       with_reducible rfl
      rotate_left
      ·simp only [Act.put, Z1, Z2, Z3, i64_w, i32_w]
       rfl
      refine pure_ (i := 16) (N := some 133) (v := ?_) (a' := ?_) (Bz 28 0x1ffff) rfl rfl (by kernel_rfl) (fun c_ a_ w_ h => HP.out c_ a_ _ _ w_ h) (Or.inl ⟨by rfl, ?_⟩) ?_ ?_
      rotate_left
      ·intro w'
       go_simp
       with_reducible rfl
      rotate_left
      ·simp only [Act.put, Z1, Z2, Z3, i64_w, i32_w]
       rfl
      refine pure_ (i := 17) (N := some 134) (v := ?_) (a' := ?_) (Bz 28 0x3ffff) rfl rfl (by kernel_rfl) (fun c_ a_ w_ h => HP.out c_ a_ _ _ w_ h) (Or.inl ⟨by rfl, ?_⟩) ?_ ?_
      rotate_left
      ·intro w'
       go_simp
       with_reducible rfl
      rotate_left
      ·simp only [Act.put, Z1, Z2, Z3, i64_w, i32_w]
       rfl
      refine pure_ (i := 18) (N := some 135) (v := ?_) (a' := ?_) (Bz 28 0x7ffff) rfl rfl (by kernel_rfl) (fun c_ a_ w_ h => HP.out c_ a_ _ _ w_ h) (Or.inl ⟨by rfl, ?_⟩) ?_ ?_
      rotate_left
      ·intro w'
       go_simp
       with_reducible rfl
      rotate_left
      ·simp only [Act.put, Z1, Z2, Z3, i64_w, i32_w]
       rfl
      refine pure_ (i := 19) (N := some 136) (v := ?_) (a' := ?_) (Bz 28 0xfffff) rfl rfl (by kernel_rfl) (fun c_ a_ w_ h => HP.out c_ a_ _ _ w_ h) (Or.inl ⟨by rfl, ?_⟩) ?_ ?_
      rotate_left
      ·intro w'
       go_simp
       with_reducible rfl
      rotate_left
      ·simp only [Act.put, Z1, Z2, Z3, i64_w, i32_w]
       rfl
      refine pure_ (i := 20) (N := some 137) (v := ?_) (a' := ?_) (Bz 28 0x1fffff) rfl rfl (by kernel_rfl) (fun c_ a_ w_ h => HP.out c_ a_ _ _ w_ h) (Or.inl ⟨by rfl, ?_⟩) ?_ ?_
      rotate_left
      ·intro w'
       go_simp
       with_reducible rfl
      rotate_left
      ·simp only [Act.put, Z1, Z2, Z3, i64_w, i32_w]
       rfl
      refine pure_ (i := 21) (N := some 138) (v := ?_) (a' := ?_) (Bz 28 0x3fffff) rfl rfl (by kernel_rfl) (fun c_ a_ w_ h => HP.out c_ a_ _ _ w_ h) (Or.inl ⟨by rfl, ?_⟩) ?_ ?_
      rotate_left
      ·intro w'
       go_simp
       with_reducible rfl
      rotate_left
      ·simp only [Act.put, Z1, Z2, Z3, i64_w, i32_w]
       rfl
      refine pure_ (i := 23) (N := some 140) (v := ?_) (a' := ?_) (Bz 28 0xbfffff) rfl rfl (by kernel_rfl) (fun c_ a_ w_ h => HP.out c_ a_ _ _ w_ h) (Or.inl ⟨by rfl, ?_⟩) ?_ ?_
      rotate_left
      ·intro w'
       go_simp
       with_reducible rfl
      rotate_left
      ·simp only [Act.put, Z1, Z2, Z3, i64_w, i32_w]
       rfl
      refine take_ (i := 22) (N := some 139) (v := ?_) (a' := ?_) (Bz 28 0xffffff) rfl rfl (by kernel_rfl) (fun c_ a_ w_ h => HP.out c_ a_ _ _ w_ h) (Or.inl ⟨by rfl, ?_⟩) hHeld ?_ ?_
      rotate_left
      ·rintro w' ⟨s0, s1, s2, s3, s4, s5, s6⟩
       go_simp
       with_reducible rfl
      rotate_left
      ·simp only [Act.put, Z1, Z2, Z3, i64_w, i32_w]
       rfl
      refine take_ (i := 24) (N := some 141) (v := ?_) (a' := ?_) (Bz 28 0x1ffffff) rfl rfl (by kernel_rfl) (fun c_ a_ w_ h => HP.out c_ a_ _ _ w_ h) (Or.inl ⟨by rfl, ?_⟩) hHeld ?_ ?_
      rotate_left
      ·rintro w' ⟨s0, s1, s2, s3, s4, s5, s6⟩
       go_simp
       with_reducible rfl
      rotate_left
      ·simp only [Act.put, Z1, Z2, Z3, i64_w, i32_w]
       rfl
      refine pure_ (i := 25) (N := some 142) (v := ?_) (a' := ?_) (Bz 28 0x3ffffff) rfl rfl (by kernel_rfl) (fun c_ a_ w_ h => HP.out c_ a_ _ _ w_ h) (Or.inl ⟨by rfl, ?_⟩) ?_ ?_
      rotate_left
      ·intro w'
       go_simp
       with_reducible rfl
      rotate_left
      ·simp only [Act.put, Z1, Z2, Z3, i64_w, i32_w]
       rfl
      refine pure_ (i := 26) (N := some 143) (v := ?_) (a' := ?_) (Bz 28 0x7ffffff) rfl rfl (by kernel_rfl) (fun c_ a_ w_ h => HP.out c_ a_ _ _ w_ h) (Or.inl ⟨by rfl, ?_⟩) ?_ ?_
      rotate_left
      ·intro w'
       go_simp
       with_reducible rfl
      rotate_left
      ·simp only [Act.put, Z1, Z2, Z3, i64_w, i32_w]
       rfl
      refine pure_ (i := 27) (N := some 144) (v := ?_) (a' := ?_) (Bz 28 0xfffffff) rfl rfl (by kernel_rfl) (fun c_ a_ w_ h => HP.out c_ a_ _ _ w_ h) (Or.inl ⟨by rfl, ?_⟩) ?_ ?_
      rotate_left
      ·intro w'
       go_simp
       with_reducible rfl
      rotate_left
      ·simp only [Act.put, Z1, Z2, Z3, i64_w, i32_w]
       rfl
      refine done_ (by kernel_rfl) ?_
      clear hHeld
      have y0 := (blk_cell HY5.out 0).trans rfl
      go_wp2
      go_roundg k3
      case measure => omega
      case rel => exact ⟨pv + gp, y + 1, (by first | rfl | (rw [v1])), (by first | rfl | (rw [hyw])), ⟨by have h1 := HYY.out; omega, by have h1 := HYY.out; omega, HPN.out, fun _ => ⟨by have h1 := HUP.out; have h2 := HPV.out; omega, HUP.out.2⟩⟩, HK5⟩
     ·obtain ⟨hm4, hm0, j, hj, hjm, hjr⟩ : (rd_T44 A y).f4 = 0 ∧ (rd_T44 A y).f0 = pv + 1 ∧ ∃ j : Nat, j < L5.recs.length ∧ rd_T44 L5.recs (j : Int) = rd_T44 A y ∧ (rd_T44 A y).f0 - (rd_T44 L5.recs 0).f0 = (j : Int) := by
       rcases HGO.out.is with ⟨h1, h2, h3, h4⟩ | h1
       ·exact absurd h2 hg
       ·exact h1
      have HZ1 := Aside0.mk (show ∀ wx : World, Kd.C k44 wx (some adr) L5.recs.length L5.recs → wx.cell? (adr.add (((rd_T44 A y).f0 - (rd_T44 L5.recs 0).f0).toNat * 6)) = some (.int .i64 (rd_T44 A y).f0) ∧ wx.cell? ⟨(adr.add (((rd_T44 A y).f0 - (rd_T44 L5.recs 0).f0).toNat * 6)).block, (adr.add (((rd_T44 A y).f0 - (rd_T44 L5.recs 0).f0).toNat * 6)).off + 1, none⟩ = some (.int .i64 (rd_T44 A y).f1) ∧ wx.cell? ⟨(adr.add (((rd_T44 A y).f0 - (rd_T44 L5.recs 0).f0).toNat * 6)).block, (adr.add (((rd_T44 A y).f0 - (rd_T44 L5.recs 0).f0).toNat * 6)).off + 2, none⟩ = some (.int .i64 (rd_T44 A y).f2.f0) ∧ wx.cell? ⟨(adr.add (((rd_T44 A y).f0 - (rd_T44 L5.recs 0).f0).toNat * 6)).block, (adr.add (((rd_T44 A y).f0 - (rd_T44 L5.recs 0).f0).toNat * 6)).off + 3, none⟩ = some (.int .i64 (rd_T44 A y).f2.f1) ∧ wx.cell? ⟨(adr.add (((rd_T44 A y).f0 - (rd_T44 L5.recs 0).f0).toNat * 6)).block, (adr.add (((rd_T44 A y).f0 - (rd_T44 L5.recs 0).f0).toNat * 6)).off + 4, none⟩ = some (.int .i64 (rd_T44 A y).f3) ∧ wx.cell? ⟨(adr.add (((rd_T44 A y).f0 - (rd_T44 L5.recs 0).f0).toNat * 6)).block, (adr.add (((rd_T44 A y).f0 - (rd_T44 L5.recs 0).f0).toNat * 6)).off + 5, none⟩ = some (.int .i64 (rd_T44 A y).f4) from fun wx hx => by
       obtain ⟨ad2, e2, g0, g1, g2, g3, g4, g5⟩ := at_T44 hx (j : Int) (by omega) (by omega)
       injection e2 with e2
       subst e2
       rw [hjm, Int.toNat_natCast] at g0 g1 g2 g3 g4 g5
       rw [show j = ((rd_T44 A y).f0 - (rd_T44 L5.recs 0).f0).toNat by omega] at g0 g1 g2 g3 g4 g5
       exact ⟨g0, g1, g2, g3, g4, g5⟩)
      have p3 : ((rd_T44 L5.recs 0).f0 ≤ (rd_T44 A y).f0) = True := eq_true (by omega)
      have p4 : ((rd_T44 A y).f0 - (rd_T44 L5.recs 0).f0 < (L5.recs.length : Int)) = True := eq_true (by omega)
      have p5 : (0 ≤ (rd_T44 A y).f0 - (rd_T44 L5.recs 0).f0) = True := eq_true (by omega)
      have d5 : decide ((rd_T44 A y).f0 < (rd_T44 L5.recs 0).f0) = false := decide_eq_false (by omega)
      have d1 : decide (0 < (rd_T44 A y).f4) = false := decide_eq_false hg
      have v1 : wrap64 (pv + 1) = pv + 1 := by have h1 := HUP.out; have h2 := HPV.out; have h3 := HLL.out; have h4 := HTT.out; unfold wrap64; omega
      have v3 : wrap64 ((rd_T44 A y).f0 - (rd_T44 L5.recs 0).f0) = (rd_T44 A y).f0 - (rd_T44 L5.recs 0).f0 := by unfold wrap64; have h4 := HLI5.out.ok.len; have h5 := HLI5.out.ok.s1; omega
      have d2 : ((rd_T44 A y).f0 != pv + 1) = false := by rw [hm0]; exact bne_self_eq_false _
      clear hjm hjr hm4 hm0 hj hg HGO
      generalize rd_T44 A y = m at x0 x1 x2 x3 x4 x5 HPN HUP HZ1 p3 p4 p5 d5 d1 v3 d2
      generalize (rd_T44 L5.recs 0).f0 = r0 at HZ0 HZ1 p3 p4 p5 d5 v3
      go_wp2_with (first | ((with_reducible refine gate_dst (N := 20) rfl ?_); refine box_event ?hg (N := 20) ?hd (cs := #[.int .i64 0, .int .i64 0, .int .i64 0, .int .i64 0, .int .i64 0, .int .i64 0]) (t := 44) ?hr ?_; (case hd => rfl); (case hg => rfl); (case hr => first | (go_simp; done) | (go_simp; rfl)); intro gy hgy wy hbox hb; have HY3 := Aside0.mk hbox; have HBY := Aside0.mk hb; have HGY := Aside0.mk (Nat.le_of_eq hgy.symm); clear hb hbox hgy) | (refine wpList_store_row rfl 44 (.tmp 20) (.tmp 113) rfl gy #[.int .i64 m.f0, .int .i64 m.f1, .int .i64 m.f2.f0, .int .i64 m.f2.f1, .int .i64 m.f3, .int .i64 m.f4] rfl rfl 44 #[.int .i64 0, .int .i64 0, .int .i64 0, .int .i64 0, .int .i64 0, .int .i64 0] HY3.out (by kernel_rfl) rfl (by simp [Value.oneCell']) ?_; have HY4 := Aside0.mk (setRow_heap _ _ _ #[.int .i64 m.f0, .int .i64 m.f1, .int .i64 m.f2.f0, .int .i64 m.f2.f1, .int .i64 m.f3, .int .i64 m.f4] _ _ HY3.out); have hb4 := below_setRow HBY.out HGY.out #[.int .i64 m.f0, .int .i64 m.f1, .int .i64 m.f2.f0, .int .i64 m.f2.f1, .int .i64 m.f3, .int .i64 m.f4]; have HK4 := Aside0.mk (HK3.out.below hb4); clear hb4; generalize wy.setRow gy #[.int .i64 m.f0, .int .i64 m.f1, .int .i64 m.f2.f0, .int .i64 m.f2.f1, .int .i64 m.f3, .int .i64 m.f4] = wv at HY4 HK4 ⊢;  have y0 := (blk_cell HY4.out 0).trans rfl; have y1 := (blk_cell HY4.out 1).trans rfl; have y2 := (blk_cell HY4.out 2).trans rfl; have y3 := (blk_cell HY4.out 3).trans rfl; have y4 := (blk_cell HY4.out 4).trans rfl; have y5 := (blk_cell HY4.out 5).trans rfl;  skip))
      have Z0v := HZ0.out wv HK4.out.cr
      have Z1v := HZ1.out wv HK4.out.cr
      have HK5 := Aside0.mk HK4.out.drew
      have HY5 := Aside0.mk (blk_drew HY4.out)
      refine start_ (n := 33) (S := fun w' => w'.cell? ⟨gy, 0, none⟩ = some (.int .i64 m.f0) ∧ w'.cell? ⟨gy, 1, none⟩ = some (.int .i64 m.f1) ∧ w'.cell? ⟨gy, 2, none⟩ = some (.int .i64 m.f2.f0) ∧ w'.cell? ⟨gy, 3, none⟩ = some (.int .i64 m.f2.f1) ∧ w'.cell? ⟨gy, 4, none⟩ = some (.int .i64 m.f3) ∧ w'.cell? ⟨gy, 5, none⟩ = some (.int .i64 m.f4) ∧ w'.cell? adr = some (.int .i64 r0) ∧ w'.cell? (adr.add ((m.f0 - r0).toNat * 6)) = some (.int .i64 m.f0) ∧ w'.cell? ⟨(adr.add ((m.f0 - r0).toNat * 6)).block, (adr.add ((m.f0 - r0).toNat * 6)).off + 1, none⟩ = some (.int .i64 m.f1) ∧ w'.cell? ⟨(adr.add ((m.f0 - r0).toNat * 6)).block, (adr.add ((m.f0 - r0).toNat * 6)).off + 2, none⟩ = some (.int .i64 m.f2.f0) ∧ w'.cell? ⟨(adr.add ((m.f0 - r0).toNat * 6)).block, (adr.add ((m.f0 - r0).toNat * 6)).off + 3, none⟩ = some (.int .i64 m.f2.f1) ∧ w'.cell? ⟨(adr.add ((m.f0 - r0).toNat * 6)).block, (adr.add ((m.f0 - r0).toNat * 6)).off + 4, none⟩ = some (.int .i64 m.f3) ∧ w'.cell? ⟨(adr.add ((m.f0 - r0).toNat * 6)).block, (adr.add ((m.f0 - r0).toNat * 6)).off + 5, none⟩ = some (.int .i64 m.f4)) (ds := []) #[Yn, Yn, Yn, Yn, Yn, Yn, Yn, Yn, Yn, Yn, Yn, Yn, Yn, Yn, Yn, Yn, Yn, Yn, Yn, Yn, Yn, Yn, Yn, Yn, Yn, Yn, Yn, Yn, Yn, Yn, Yn, Yn, Yn] (by kernel_rfl) rfl rfl ⟨y0, y1, y2, y3, y4, y5, Z0v, Z1v.1, Z1v.2.1, Z1v.2.2.1, Z1v.2.2.2.1, Z1v.2.2.2.2.1, Z1v.2.2.2.2.2⟩ (fun hHeld => ?_)
      generalize wv.drew = w5 at HK5 HY5 hHeld ⊢
      clear y0 y1 y2 y3 y4 y5 Z0v Z1v
      refine pure_ (i := 0) (N := some 145) (v := ?_) (a' := ?_) (Bz 33 0x1) rfl rfl (by kernel_rfl) (fun c_ a_ w_ h => HP.out c_ a_ _ _ w_ h) (Or.inl ⟨by rfl, ?_⟩) ?_ ?_
      rotate_left
      ·intro w'
       go_simp
       with_reducible rfl
      rotate_left
      ·simp only [Act.put, Z1, Z2, Z3, i64_w, i32_w]
       rfl
      refine pure_ (i := 2) (N := some 147) (v := ?_) (a' := ?_) (Bz 33 0x5) rfl rfl (by kernel_rfl) (fun c_ a_ w_ h => HP.out c_ a_ _ _ w_ h) (Or.inl ⟨by rfl, ?_⟩) ?_ ?_
      rotate_left
      ·intro w'
       go_simp
       with_reducible rfl
      rotate_left
      ·simp only [Act.put, Z1, Z2, Z3, i64_w, i32_w]
       rfl
      refine pure_ (i := 3) (N := some 148) (v := ?_) (a' := ?_) (Bz 33 0xd) rfl rfl (by kernel_rfl) (fun c_ a_ w_ h => HP.out c_ a_ _ _ w_ h) (Or.inl ⟨by rfl, ?_⟩) ?_ ?_
      rotate_left
      ·intro w'
       go_simp
       with_reducible rfl
      rotate_left
      ·simp only [Act.put, Z1, Z2, Z3, i64_w, i32_w]
       rfl
      refine take_ (i := 1) (N := some 146) (v := ?_) (a' := ?_) (Bz 33 0xf) rfl rfl (by kernel_rfl) (fun c_ a_ w_ h => HP.out c_ a_ _ _ w_ h) (Or.inl ⟨by rfl, ?_⟩) hHeld ?_ ?_
      rotate_left
      ·rintro w' ⟨s0, s1, s2, s3, s4, s5, s6, s7, s8, s9, s10, s11, s12⟩
       go_simp
       with_reducible rfl
      rotate_left
      ·simp only [Act.put, Z1, Z2, Z3, i64_w, i32_w]
       rfl
      refine pure_ (i := 4) (N := some 149) (v := ?_) (a' := ?_) (Bz 33 0x1f) rfl rfl (by kernel_rfl) (fun c_ a_ w_ h => HP.out c_ a_ _ _ w_ h) (Or.inl ⟨by rfl, ?_⟩) ?_ ?_
      rotate_left
      ·intro w'
       go_simp
       with_reducible rfl
      rotate_left
      ·simp only [Act.put, Z1, Z2, Z3, i64_w, i32_w]
       rfl
      refine pure_ (i := 5) (N := some 150) (v := ?_) (a' := ?_) (Bz 33 0x3f) rfl rfl (by kernel_rfl) (fun c_ a_ w_ h => HP.out c_ a_ _ _ w_ h) (Or.inl ⟨by rfl, ?_⟩) ?_ ?_
      rotate_left
      ·intro w'
       go_simp
       with_reducible rfl
      rotate_left
      ·simp only [Act.put, Z1, Z2, Z3, i64_w, i32_w]
       rfl
      refine pure_ (i := 6) (N := some 151) (v := ?_) (a' := ?_) (Bz 33 0x7f) rfl rfl (by kernel_rfl) (fun c_ a_ w_ h => HP.out c_ a_ _ _ w_ h) (Or.inl ⟨by rfl, ?_⟩) ?_ ?_
      rotate_left
      ·intro w'
       go_simp
       with_reducible rfl
      rotate_left
      ·simp only [Act.put, Z1, Z2, Z3, i64_w, i32_w]
       rfl
      refine pure_ (i := 7) (N := some 152) (v := ?_) (a' := ?_) (Bz 33 0xff) rfl rfl (by kernel_rfl) (fun c_ a_ w_ h => HP.out c_ a_ _ _ w_ h) (Or.inl ⟨by rfl, ?_⟩) ?_ ?_
      rotate_left
      ·intro w'
       go_simp
       with_reducible rfl
      rotate_left
      ·simp only [Act.put, Z1, Z2, Z3, i64_w, i32_w]
       rfl
      refine pure_ (i := 8) (N := some 153) (v := ?_) (a' := ?_) (Bz 33 0x1ff) rfl rfl (by kernel_rfl) (fun c_ a_ w_ h => HP.out c_ a_ _ _ w_ h) (Or.inl ⟨by rfl, ?_⟩) ?_ ?_
      rotate_left
      ·intro w'
       go_simp
       with_reducible rfl
      rotate_left
      ·simp only [Act.put, Z1, Z2, Z3, i64_w, i32_w]
       rfl
      refine pure_ (i := 9) (N := some 154) (v := ?_) (a' := ?_) (Bz 33 0x3ff) rfl rfl (by kernel_rfl) (fun c_ a_ w_ h => HP.out c_ a_ _ _ w_ h) (Or.inl ⟨by rfl, ?_⟩) ?_ ?_
      rotate_left
      ·intro w'
       go_simp
       with_reducible rfl
      rotate_left
      ·simp only [Act.put, Z1, Z2, Z3, i64_w, i32_w]
       rfl
      refine pure_ (i := 10) (N := some 155) (v := ?_) (a' := ?_) (Bz 33 0x7ff) rfl rfl (by kernel_rfl) (fun c_ a_ w_ h => HP.out c_ a_ _ _ w_ h) (Or.inl ⟨by rfl, ?_⟩) ?_ ?_
      rotate_left
      ·intro w'
       go_simp
       with_reducible rfl
      rotate_left
      ·simp only [Act.put, Z1, Z2, Z3, i64_w, i32_w]
       rfl
      refine pure_ (i := 11) (N := some 156) (v := ?_) (a' := ?_) (Bz 33 0xfff) rfl rfl (by kernel_rfl) (fun c_ a_ w_ h => HP.out c_ a_ _ _ w_ h) (Or.inl ⟨by rfl, ?_⟩) ?_ ?_
      rotate_left
      ·intro w'
       go_simp
       with_reducible rfl
      rotate_left
      ·simp only [Act.put, Z1, Z2, Z3, i64_w, i32_w]
       rfl
      refine pure_ (i := 13) (N := some 158) (v := ?_) (a' := ?_) (Bz 33 0x2fff) rfl rfl (by kernel_rfl) (fun c_ a_ w_ h => HP.out c_ a_ _ _ w_ h) (Or.inl ⟨by rfl, ?_⟩) ?_ ?_
      rotate_left
      ·intro w'
       go_simp
       with_reducible rfl
      rotate_left
      ·simp only [Act.put, Z1, Z2, Z3, i64_w, i32_w]
       rfl
      refine pure_ (i := 14) (N := some 159) (v := ?_) (a' := ?_) (Bz 33 0x6fff) rfl rfl (by kernel_rfl) (fun c_ a_ w_ h => HP.out c_ a_ _ _ w_ h) (Or.inl ⟨by rfl, ?_⟩) ?_ ?_
      rotate_left
      ·intro w'
       go_simp
       with_reducible rfl
      rotate_left
      ·simp only [Act.put, Z1, Z2, Z3, i64_w, i32_w]
       rfl
      refine pure_ (i := 15) (N := some 160) (v := ?_) (a' := ?_) (Bz 33 0xefff) rfl rfl (by kernel_rfl) (fun c_ a_ w_ h => HP.out c_ a_ _ _ w_ h) (Or.inl ⟨by rfl, ?_⟩) ?_ ?_
      rotate_left
      ·intro w'
       go_simp
       with_reducible rfl
      rotate_left
      ·simp only [Act.put, Z1, Z2, Z3, i64_w, i32_w]
       rfl
      refine take_ (i := 12) (N := some 157) (v := ?_) (a' := ?_) (Bz 33 0xffff) rfl rfl (by kernel_rfl) (fun c_ a_ w_ h => HP.out c_ a_ _ _ w_ h) (Or.inl ⟨by rfl, ?_⟩) hHeld ?_ ?_
      rotate_left
      ·rintro w' ⟨s0, s1, s2, s3, s4, s5, s6, s7, s8, s9, s10, s11, s12⟩
       go_simp
       with_reducible rfl
      rotate_left
      ·simp only [Act.put, Z1, Z2, Z3, i64_w, i32_w]
       rfl
      refine take_ (i := 16) (N := some 161) (v := ?_) (a' := ?_) (Bz 33 0x1ffff) rfl rfl (by kernel_rfl) (fun c_ a_ w_ h => HP.out c_ a_ _ _ w_ h) (Or.inl ⟨by rfl, ?_⟩) hHeld ?_ ?_
      rotate_left
      ·rintro w' ⟨s0, s1, s2, s3, s4, s5, s6, s7, s8, s9, s10, s11, s12⟩
       go_simp
       with_reducible rfl
      rotate_left
      ·simp only [Act.put, Z1, Z2, Z3, i64_w, i32_w]
       rfl
      refine pure_ (i := 17) (N := some 162) (v := ?_) (a' := ?_) (Bz 33 0x3ffff) rfl rfl (by kernel_rfl) (fun c_ a_ w_ h => HP.out c_ a_ _ _ w_ h) (Or.inl ⟨by rfl, ?_⟩) ?_ ?_
      rotate_left
      ·intro w'
       go_simp
       with_reducible rfl
      rotate_left
      ·simp only [Act.put, Z1, Z2, Z3, i64_w, i32_w]
       rfl
      refine pure_ (i := 18) (N := some 163) (v := ?_) (a' := ?_) (Bz 33 0x7ffff) rfl rfl (by kernel_rfl) (fun c_ a_ w_ h => HP.out c_ a_ _ _ w_ h) (Or.inl ⟨by rfl, ?_⟩) ?_ ?_
      rotate_left
      ·intro w'
       go_simp
       with_reducible rfl
      rotate_left
      ·simp only [Act.put, Z1, Z2, Z3, i64_w, i32_w]
       rfl
      refine pure_ (i := 19) (N := some 164) (v := ?_) (a' := ?_) (Bz 33 0xfffff) rfl rfl (by kernel_rfl) (fun c_ a_ w_ h => HP.out c_ a_ _ _ w_ h) (Or.inl ⟨by rfl, ?_⟩) ?_ ?_
      rotate_left
      ·intro w'
       go_simp
       with_reducible rfl
      rotate_left
      ·simp only [Act.put, Z1, Z2, Z3, i64_w, i32_w]
       rfl
      refine pure_ (i := 21) (N := some 166) (v := ?_) (a' := ?_) (Bz 33 0x2fffff) rfl rfl (by kernel_rfl) (fun c_ a_ w_ h => HP.out c_ a_ _ _ w_ h) (Or.inl ⟨by rfl, ?_⟩) ?_ ?_
      rotate_left
      ·intro w'
       go_simp
       with_reducible rfl
      rotate_left
      ·simp only [Act.put, Z1, Z2, Z3, i64_w, i32_w]
       rfl
      refine pure_ (i := 22) (N := some 167) (v := ?_) (a' := ?_) (Bz 33 0x6fffff) rfl rfl (by kernel_rfl) (fun c_ a_ w_ h => HP.out c_ a_ _ _ w_ h) (Or.inl ⟨by rfl, ?_⟩) ?_ ?_
      rotate_left
      ·intro w'
       go_simp
       with_reducible rfl
      rotate_left
      ·simp only [Act.put, Z1, Z2, Z3, i64_w, i32_w]
       rfl
      refine pure_ (i := 24) (N := some 169) (v := ?_) (a' := ?_) (Bz 33 0x16fffff) rfl rfl (by kernel_rfl) (fun c_ a_ w_ h => HP.out c_ a_ _ _ w_ h) (Or.inl ⟨by rfl, ?_⟩) ?_ ?_
      rotate_left
      ·intro w'
       go_simp
       with_reducible rfl
      rotate_left
      ·simp only [Act.put, Z1, Z2, Z3, i64_w, i32_w]
       rfl
      refine pure_ (i := 25) (N := some 170) (v := ?_) (a' := ?_) (Bz 33 0x36fffff) rfl rfl (by kernel_rfl) (fun c_ a_ w_ h => HP.out c_ a_ _ _ w_ h) (Or.inl ⟨by rfl, ?_⟩) ?_ ?_
      rotate_left
      ·intro w'
       go_simp
       with_reducible rfl
      rotate_left
      ·simp only [Act.put, Z1, Z2, Z3, i64_w, i32_w]
       rfl
      refine pure_ (i := 26) (N := some 171) (v := ?_) (a' := ?_) (Bz 33 0x76fffff) rfl rfl (by kernel_rfl) (fun c_ a_ w_ h => HP.out c_ a_ _ _ w_ h) (Or.inl ⟨by rfl, ?_⟩) ?_ ?_
      rotate_left
      ·intro w'
       go_simp
       with_reducible rfl
      rotate_left
      ·simp only [Act.put, Z1, Z2, Z3, i64_w, i32_w]
       rfl
      refine take_ (i := 20) (N := some 165) (v := ?_) (a' := ?_) (Bz 33 0x77fffff) rfl rfl (by kernel_rfl) (fun c_ a_ w_ h => HP.out c_ a_ _ _ w_ h) (Or.inl ⟨by rfl, ?_⟩) hHeld ?_ ?_
      rotate_left
      ·rintro w' ⟨s0, s1, s2, s3, s4, s5, s6, s7, s8, s9, s10, s11, s12⟩
       go_simp
       with_reducible rfl
      rotate_left
      ·simp only [Act.put, Z1, Z2, Z3, i64_w, i32_w]
       rfl
      refine take_ (i := 23) (N := some 168) (v := ?_) (a' := ?_) (Bz 33 0x7ffffff) rfl rfl (by kernel_rfl) (fun c_ a_ w_ h => HP.out c_ a_ _ _ w_ h) (Or.inl ⟨by rfl, ?_⟩) hHeld ?_ ?_
      rotate_left
      ·rintro w' ⟨s0, s1, s2, s3, s4, s5, s6, s7, s8, s9, s10, s11, s12⟩
       go_simp
       with_reducible rfl
      rotate_left
      ·simp only [Act.put, Z1, Z2, Z3, i64_w, i32_w]
       rfl
      refine take_ (i := 27) (N := some 172) (v := ?_) (a' := ?_) (Bz 33 0xfffffff) rfl rfl (by kernel_rfl) (fun c_ a_ w_ h => HP.out c_ a_ _ _ w_ h) (Or.inl ⟨by rfl, ?_⟩) hHeld ?_ ?_
      rotate_left
      ·rintro w' ⟨s0, s1, s2, s3, s4, s5, s6, s7, s8, s9, s10, s11, s12⟩
       go_simp
       with_reducible rfl
      rotate_left
      ·simp only [Act.put, Z1, Z2, Z3, i64_w, i32_w]
       rfl
      refine pure_ (i := 28) (N := some 173) (v := ?_) (a' := ?_) (Bz 33 0x1fffffff) rfl rfl (by kernel_rfl) (fun c_ a_ w_ h => HP.out c_ a_ _ _ w_ h) (Or.inl ⟨by rfl, ?_⟩) ?_ ?_
      rotate_left
      ·intro w'
       go_simp
       with_reducible rfl
      rotate_left
      ·simp only [Act.put, Z1, Z2, Z3, i64_w, i32_w]
       rfl
      refine pure_ (i := 29) (N := some 174) (v := ?_) (a' := ?_) (Bz 33 0x3fffffff) rfl rfl (by kernel_rfl) (fun c_ a_ w_ h => HP.out c_ a_ _ _ w_ h) (Or.inl ⟨by rfl, ?_⟩) ?_ ?_
      rotate_left
      ·intro w'
       go_simp
       with_reducible rfl
      rotate_left
      ·simp only [Act.put, Z1, Z2, Z3, i64_w, i32_w]
       rfl
      refine take_ (i := 30) (N := some 175) (v := ?_) (a' := ?_) (Bz 33 0x7fffffff) rfl rfl (by kernel_rfl) (fun c_ a_ w_ h => HP.out c_ a_ _ _ w_ h) (Or.inl ⟨by rfl, ?_⟩) hHeld ?_ ?_
      rotate_left
      ·rintro w' ⟨s0, s1, s2, s3, s4, s5, s6, s7, s8, s9, s10, s11, s12⟩
       go_simp
       with_reducible rfl
      rotate_left
      ·simp only [Act.put, Z1, Z2, Z3, i64_w, i32_w]
       rfl
      refine pure_ (i := 31) (N := some 176) (v := ?_) (a' := ?_) (Bz 33 0xffffffff) rfl rfl (by kernel_rfl) (fun c_ a_ w_ h => HP.out c_ a_ _ _ w_ h) (Or.inl ⟨by rfl, ?_⟩) ?_ ?_
      rotate_left
      ·intro w'
       go_simp
       with_reducible rfl
      rotate_left
      ·simp only [Act.put, Z1, Z2, Z3, i64_w, i32_w]
       rfl
      refine pure_ (i := 32) (N := some 177) (v := ?_) (a' := ?_) (Bz 33 0x1ffffffff) rfl rfl (by kernel_rfl) (fun c_ a_ w_ h => HP.out c_ a_ _ _ w_ h) (Or.inl ⟨by rfl, ?_⟩) ?_ ?_
      rotate_left
      ·intro w'
       go_simp
       with_reducible rfl
      rotate_left
      ·simp only [Act.put, Z1, Z2, Z3, i64_w, i32_w]
       rfl
      refine done_ (by kernel_rfl) ?_
      clear hHeld
      have y0 := (blk_cell HY5.out 0).trans rfl
      go_wp2
      go_roundg k3
      case measure => omega
      case rel => exact ⟨m.f0, y + 1, rfl, (by first | rfl | (rw [hyw])), ⟨by have h1 := HYY.out; omega, by have h1 := HYY.out; omega, HPN.out, fun _ => ⟨by have h1 := HUP.out; have h2 := HPV.out; omega, HUP.out.2⟩⟩, HK5⟩
set_option maxHeartbeats 16000000 in
set_option maxRecDepth 100000 in
theorem reader_walk (nm pt : ByteArray) (way iv st sz kind a : Int) (A3 : Option Addr) (c3 : Nat) (l : List S34) (most every : Int) (w : World) (hG : Glob w) (h0 : 0 < w.heap.size) (hC : Kd.C k34 w A3 l.length l) (hc : l.length ≤ c3) (hmm : most ≤ 9223372036854775807) :
  Calls Tryd.prog 3 #[.agg #[.string nm, .string pt, .int .i64 way, .int .i64 iv, .int .i64 st, .int .i64 sz], .int .i64 kind, .int .i64 a, .slice A3 l.length c3, .int .i64 most, .int .i64 every] w fun e w' => e = .returned (.bool true) ∧ Below w.heap.size w w' := by
 have HG := Aside0.mk hG
 have HC := Aside0.mk hC
 have HC3 := Aside0.mk hc
 have HSZ := Aside0.mk h0
 have HMB := Aside0.mk hmm
 clear hG hC hc h0 hmm
 have hu44 := Tryd.underlying44
 have hu30 := Tryd.underlying30
 obtain ⟨fr, hf, hok⟩ := fit_all nm pt way iv st sz kind a l 30 (by decide)
 have HF := Aside0.mk hf
 have HOK := Aside0.mk hok
 clear hf hok
 cases fr with
 | false =>
  go_enter Tryd.func3, Tryd.ntmps3
  go_wp2_with (first | ((with_reducible refine gate_dst (N := 6) rfl ?_); refine box_event ?hg (N := 6) ?hd (cs := #[.string nm, .string pt, .int .i64 way, .int .i64 iv, .int .i64 st, .int .i64 sz]) (t := 23) ?hr ?_; (case hd => rfl); (case hg => rfl); (case hr => first | (go_simp; done) | (go_simp; rfl)); intro gr hgr w1 hbox hb; have HR1 := Aside0.mk hbox; have HB1 := Aside0.mk hb; have x0 := (blk_cell HR1.out 0).trans rfl; have x1 := (blk_cell HR1.out 1).trans rfl; have x2 := (blk_cell HR1.out 2).trans rfl; have x3 := (blk_cell HR1.out 3).trans rfl; have x4 := (blk_cell HR1.out 4).trans rfl; have x5 := (blk_cell HR1.out 5).trans rfl;  clear hb hbox hgr) | (go_at_call 8; (with_reducible refine (awake_calls w1 (Glob.below HG.out HB1.out)).mono ?_); rintro e w2 ⟨rfl, hb⟩; have HR2 := Aside0.mk (blk_below HR1.out hb); have HB2 := Aside0.mk (below_step HB1.out hb); clear x0 x1 x2 x3 x4 x5; have x0 := (blk_cell HR2.out 0).trans rfl; have x1 := (blk_cell HR2.out 1).trans rfl; have x2 := (blk_cell HR2.out 2).trans rfl; have x3 := (blk_cell HR2.out 3).trans rfl; have x4 := (blk_cell HR2.out 4).trans rfl; have x5 := (blk_cell HR2.out 5).trans rfl;  clear hb) | (go_at_call 9; (with_reducible refine (plenumref41_Fit.calls 100 nm pt way iv st sz kind a A3 c3 l 30 _ w2 (Glob.below HG.out HB2.out) (Kd.C_below HC.out HB2.out) HC3.out HF.out).mono ?_); rintro e w3 ⟨rfl, hb⟩; have HR3 := Aside0.mk (blk_below HR2.out hb); have HB3 := Aside0.mk (below_step HB2.out hb); clear x0 x1 x2 x3 x4 x5; have x0 := (blk_cell HR3.out 0).trans rfl; have x1 := (blk_cell HR3.out 1).trans rfl; have x2 := (blk_cell HR3.out 2).trans rfl; have x3 := (blk_cell HR3.out 3).trans rfl; have x4 := (blk_cell HR3.out 4).trans rfl; have x5 := (blk_cell HR3.out 5).trans rfl;  clear hb))
  go_ret
  exact ⟨rfl, HB3.out⟩
 | true =>
  have HFO := Aside0.mk (HOK.out rfl)
  by_cases k1 : most < 1
  ·have k1b : decide (most < 1) = true := decide_eq_true k1
   clear k1
   go_enter Tryd.func3, Tryd.ntmps3
   go_wp2_with (first | ((with_reducible refine gate_dst (N := 6) rfl ?_); refine box_event ?hg (N := 6) ?hd (cs := #[.string nm, .string pt, .int .i64 way, .int .i64 iv, .int .i64 st, .int .i64 sz]) (t := 23) ?hr ?_; (case hd => rfl); (case hg => rfl); (case hr => first | (go_simp; done) | (go_simp; rfl)); intro gr hgr w1 hbox hb; have HR1 := Aside0.mk hbox; have HB1 := Aside0.mk hb; have x0 := (blk_cell HR1.out 0).trans rfl; have x1 := (blk_cell HR1.out 1).trans rfl; have x2 := (blk_cell HR1.out 2).trans rfl; have x3 := (blk_cell HR1.out 3).trans rfl; have x4 := (blk_cell HR1.out 4).trans rfl; have x5 := (blk_cell HR1.out 5).trans rfl;  clear hb hbox hgr) | (go_at_call 8; (with_reducible refine (awake_calls w1 (Glob.below HG.out HB1.out)).mono ?_); rintro e w2 ⟨rfl, hb⟩; have HR2 := Aside0.mk (blk_below HR1.out hb); have HB2 := Aside0.mk (below_step HB1.out hb); clear x0 x1 x2 x3 x4 x5; have x0 := (blk_cell HR2.out 0).trans rfl; have x1 := (blk_cell HR2.out 1).trans rfl; have x2 := (blk_cell HR2.out 2).trans rfl; have x3 := (blk_cell HR2.out 3).trans rfl; have x4 := (blk_cell HR2.out 4).trans rfl; have x5 := (blk_cell HR2.out 5).trans rfl;  clear hb) | (go_at_call 9; (with_reducible refine (plenumref41_Fit.calls 100 nm pt way iv st sz kind a A3 c3 l 30 _ w2 (Glob.below HG.out HB2.out) (Kd.C_below HC.out HB2.out) HC3.out HF.out).mono ?_); rintro e w3 ⟨rfl, hb⟩; have HR3 := Aside0.mk (blk_below HR2.out hb); have HB3 := Aside0.mk (below_step HB2.out hb); clear x0 x1 x2 x3 x4 x5; have x0 := (blk_cell HR3.out 0).trans rfl; have x1 := (blk_cell HR3.out 1).trans rfl; have x2 := (blk_cell HR3.out 2).trans rfl; have x3 := (blk_cell HR3.out 3).trans rfl; have x4 := (blk_cell HR3.out 4).trans rfl; have x5 := (blk_cell HR3.out 5).trans rfl;  clear hb))
   go_ret
   exact ⟨rfl, HB3.out⟩
  have HM1 := Aside0.mk (show 1 ≤ most by omega)
  have k1b : decide (most < 1) = false := decide_eq_false k1
  clear k1
  by_cases k2 : every < 1
  ·have k2b : decide (every < 1) = true := decide_eq_true k2
   clear k2
   go_enter Tryd.func3, Tryd.ntmps3
   go_wp2_with (first | ((with_reducible refine gate_dst (N := 6) rfl ?_); refine box_event ?hg (N := 6) ?hd (cs := #[.string nm, .string pt, .int .i64 way, .int .i64 iv, .int .i64 st, .int .i64 sz]) (t := 23) ?hr ?_; (case hd => rfl); (case hg => rfl); (case hr => first | (go_simp; done) | (go_simp; rfl)); intro gr hgr w1 hbox hb; have HR1 := Aside0.mk hbox; have HB1 := Aside0.mk hb; have x0 := (blk_cell HR1.out 0).trans rfl; have x1 := (blk_cell HR1.out 1).trans rfl; have x2 := (blk_cell HR1.out 2).trans rfl; have x3 := (blk_cell HR1.out 3).trans rfl; have x4 := (blk_cell HR1.out 4).trans rfl; have x5 := (blk_cell HR1.out 5).trans rfl;  clear hb hbox hgr) | (go_at_call 8; (with_reducible refine (awake_calls w1 (Glob.below HG.out HB1.out)).mono ?_); rintro e w2 ⟨rfl, hb⟩; have HR2 := Aside0.mk (blk_below HR1.out hb); have HB2 := Aside0.mk (below_step HB1.out hb); clear x0 x1 x2 x3 x4 x5; have x0 := (blk_cell HR2.out 0).trans rfl; have x1 := (blk_cell HR2.out 1).trans rfl; have x2 := (blk_cell HR2.out 2).trans rfl; have x3 := (blk_cell HR2.out 3).trans rfl; have x4 := (blk_cell HR2.out 4).trans rfl; have x5 := (blk_cell HR2.out 5).trans rfl;  clear hb) | (go_at_call 9; (with_reducible refine (plenumref41_Fit.calls 100 nm pt way iv st sz kind a A3 c3 l 30 _ w2 (Glob.below HG.out HB2.out) (Kd.C_below HC.out HB2.out) HC3.out HF.out).mono ?_); rintro e w3 ⟨rfl, hb⟩; have HR3 := Aside0.mk (blk_below HR2.out hb); have HB3 := Aside0.mk (below_step HB2.out hb); clear x0 x1 x2 x3 x4 x5; have x0 := (blk_cell HR3.out 0).trans rfl; have x1 := (blk_cell HR3.out 1).trans rfl; have x2 := (blk_cell HR3.out 2).trans rfl; have x3 := (blk_cell HR3.out 3).trans rfl; have x4 := (blk_cell HR3.out 4).trans rfl; have x5 := (blk_cell HR3.out 5).trans rfl;  clear hb))
   go_ret
   exact ⟨rfl, HB3.out⟩
  have HE1 := Aside0.mk (show 1 ≤ every by omega)
  have k2b : decide (every < 1) = false := decide_eq_false k2
  clear k2
  by_cases k3 : 30 < every
  ·have k3b : decide (30 < every) = true := decide_eq_true k3
   clear k3
   go_enter Tryd.func3, Tryd.ntmps3
   go_wp2_with (first | ((with_reducible refine gate_dst (N := 6) rfl ?_); refine box_event ?hg (N := 6) ?hd (cs := #[.string nm, .string pt, .int .i64 way, .int .i64 iv, .int .i64 st, .int .i64 sz]) (t := 23) ?hr ?_; (case hd => rfl); (case hg => rfl); (case hr => first | (go_simp; done) | (go_simp; rfl)); intro gr hgr w1 hbox hb; have HR1 := Aside0.mk hbox; have HB1 := Aside0.mk hb; have x0 := (blk_cell HR1.out 0).trans rfl; have x1 := (blk_cell HR1.out 1).trans rfl; have x2 := (blk_cell HR1.out 2).trans rfl; have x3 := (blk_cell HR1.out 3).trans rfl; have x4 := (blk_cell HR1.out 4).trans rfl; have x5 := (blk_cell HR1.out 5).trans rfl;  clear hb hbox hgr) | (go_at_call 8; (with_reducible refine (awake_calls w1 (Glob.below HG.out HB1.out)).mono ?_); rintro e w2 ⟨rfl, hb⟩; have HR2 := Aside0.mk (blk_below HR1.out hb); have HB2 := Aside0.mk (below_step HB1.out hb); clear x0 x1 x2 x3 x4 x5; have x0 := (blk_cell HR2.out 0).trans rfl; have x1 := (blk_cell HR2.out 1).trans rfl; have x2 := (blk_cell HR2.out 2).trans rfl; have x3 := (blk_cell HR2.out 3).trans rfl; have x4 := (blk_cell HR2.out 4).trans rfl; have x5 := (blk_cell HR2.out 5).trans rfl;  clear hb) | (go_at_call 9; (with_reducible refine (plenumref41_Fit.calls 100 nm pt way iv st sz kind a A3 c3 l 30 _ w2 (Glob.below HG.out HB2.out) (Kd.C_below HC.out HB2.out) HC3.out HF.out).mono ?_); rintro e w3 ⟨rfl, hb⟩; have HR3 := Aside0.mk (blk_below HR2.out hb); have HB3 := Aside0.mk (below_step HB2.out hb); clear x0 x1 x2 x3 x4 x5; have x0 := (blk_cell HR3.out 0).trans rfl; have x1 := (blk_cell HR3.out 1).trans rfl; have x2 := (blk_cell HR3.out 2).trans rfl; have x3 := (blk_cell HR3.out 3).trans rfl; have x4 := (blk_cell HR3.out 4).trans rfl; have x5 := (blk_cell HR3.out 5).trans rfl;  clear hb))
   go_ret
   exact ⟨rfl, HB3.out⟩
  have HE2 := Aside0.mk (show every ≤ 30 by omega)
  have k3b : decide (30 < every) = false := decide_eq_false k3
  clear k3
  have e0b : (every == 0) = false := beq_false_of_ne (by have h1 := HE1.out; omega)
  have e0c : (every = 0) = False := eq_false (by have h1 := HE1.out; omega)
  go_enter Tryd.func3, Tryd.ntmps3
  go_wp2_with (first | ((with_reducible refine gate_dst (N := 6) rfl ?_); refine box_event ?hg (N := 6) ?hd (cs := #[.string nm, .string pt, .int .i64 way, .int .i64 iv, .int .i64 st, .int .i64 sz]) (t := 23) ?hr ?_; (case hd => rfl); (case hg => rfl); (case hr => first | (go_simp; done) | (go_simp; rfl)); intro gr hgr w1 hbox hb; have HR1 := Aside0.mk hbox; have HB1 := Aside0.mk hb; have x0 := (blk_cell HR1.out 0).trans rfl; have x1 := (blk_cell HR1.out 1).trans rfl; have x2 := (blk_cell HR1.out 2).trans rfl; have x3 := (blk_cell HR1.out 3).trans rfl; have x4 := (blk_cell HR1.out 4).trans rfl; have x5 := (blk_cell HR1.out 5).trans rfl;  clear hb hbox hgr) | (go_at_call 8; (with_reducible refine (awake_calls w1 (Glob.below HG.out HB1.out)).mono ?_); rintro e w2 ⟨rfl, hb⟩; have HR2 := Aside0.mk (blk_below HR1.out hb); have HB2 := Aside0.mk (below_step HB1.out hb); clear x0 x1 x2 x3 x4 x5; have x0 := (blk_cell HR2.out 0).trans rfl; have x1 := (blk_cell HR2.out 1).trans rfl; have x2 := (blk_cell HR2.out 2).trans rfl; have x3 := (blk_cell HR2.out 3).trans rfl; have x4 := (blk_cell HR2.out 4).trans rfl; have x5 := (blk_cell HR2.out 5).trans rfl;  clear hb) | (go_at_call 9; (with_reducible refine (plenumref41_Fit.calls 100 nm pt way iv st sz kind a A3 c3 l 30 _ w2 (Glob.below HG.out HB2.out) (Kd.C_below HC.out HB2.out) HC3.out HF.out).mono ?_); rintro e w3 ⟨rfl, hb⟩; have HR3 := Aside0.mk (blk_below HR2.out hb); have HB3 := Aside0.mk (below_step HB2.out hb); clear x0 x1 x2 x3 x4 x5; have x0 := (blk_cell HR3.out 0).trans rfl; have x1 := (blk_cell HR3.out 1).trans rfl; have x2 := (blk_cell HR3.out 2).trans rfl; have x3 := (blk_cell HR3.out 3).trans rfl; have x4 := (blk_cell HR3.out 4).trans rfl; have x5 := (blk_cell HR3.out 5).trans rfl;  clear hb) | (go_at_call 10; (with_reducible refine (new_calls nm pt way iv st sz a w3).mono ?_); rintro e w4 ⟨g, rfl, hl, hb⟩; obtain ⟨B, hB⟩ : ∃ B, B = w3.heap.size := ⟨_, rfl⟩; rw [← hB] at hl; have HL4 := Aside0.mk hl; have HS4 := Aside0.mk (show B ≤ w4.heap.size by rw [hB]; exact hb.size); have HLO := Aside0.mk (show w.heap.size ≤ B by rw [hB]; exact HB3.out.size); have HB4 := Aside0.mk (below_step HB3.out hb); have HLI := Aside0.mk (LgI.new (nm := nm) (pt := pt) (st := st) HFO.out.a0 HFO.out.a1 HFO.out.chk.s0 HFO.out.chk.s1 HFO.out.chk.iv); clear x0 x1 x2 x3 x4 x5 hl hb hB HR1 HR2 HR3 HB1 HB2 HB3))
  go_loopg [14, 15] (l.length + 1) (fun kq v14 v15 wr => ∃ (i last : Int) (L : Lg) (H : List S44), v14 = .int .i64 last ∧ v15 = .int .i64 i ∧ Aside0 (0 ≤ i ∧ i + (kq : Int) = (l.length : Int) + 1 ∧ 0 ≤ last ∧ last ≤ L.total ∧ (kq = 0 → last = L.total)) ∧ Aside0 (RQ nm pt way iv st sz i w B g L H wr))
  case atStart => exact ⟨0, 0, _, [], rfl, rfl, ⟨by omega, by omega, by omega, Int.le_refl 0, fun h => by omega⟩, ⟨HL4.out, HS4.out, HB4.out, HLI.out⟩⟩
  case round =>
   obtain ⟨i, last, L, H, rfl, rfl, HII, HRI⟩ := hrel
   clear HL4 HS4 HB4 HLI k1b k2b k3b
   cases gk with
   | zero =>
    have q0 : decide (i ≤ (l.length : Int)) = false := decide_eq_false (by have h1 := HII.out; omega)
    have hlast : last = L.total := HII.out.2.2.2.2 rfl
    subst hlast
    go_wp2_with (go_at_call 12; (with_reducible refine (total_calls B g L _ HRI.out.log).mono ?_); rintro e wq ⟨rfl, rfl⟩)
    go_ret
    exact ⟨rfl, HRI.out.bel⟩
   | succ k1 =>
    have q0 : decide (i ≤ (l.length : Int)) = true := decide_eq_true (by have h1 := HII.out; omega)
    have HN := Aside0.mk (show i ≤ 1000 by have h1 := HFO.out.len; have h2 := HII.out; omega)
    have hiw : wrap64 (i + 1) = i + 1 := by have h1 := HII.out; have h2 := HN.out; unfold wrap64; omega
    obtain ⟨rm, HRM⟩ : ∃ rm, Aside0 (i.tmod every = rm) := ⟨_, ⟨rfl⟩⟩
    have hrm : i.tmod every = rm := HRM.out
    by_cases hlt : i < (l.length : Int)
    ·have ql : decide (i < (l.length : Int)) = true := decide_eq_true hlt
     have HLT := Aside0.mk hlt
     have p1 : (0 ≤ i) = True := eq_true HII.out.1
     have p2 : (i < (l.length : Int)) = True := eq_true hlt
     have HMV := Aside0.mk (show MvOk a way iv (rd_T34 l i) by
      obtain ⟨y, rfl⟩ : ∃ y : Nat, i = (y : Int) := ⟨i.toNat, by have h1 := HII.out; omega⟩
      rw [rd34_get l y (by omega)]
      exact HFO.out.mv y (by omega))
     obtain ⟨ad, e1, z0, z1, z2, z3, z4⟩ := at_T34 (Kd.C_below HC.out HRI.out.bel) i HII.out.1 hlt
     subst e1
     generalize rd_T34 l i = mv at z0 z1 z2 z3 z4 HMV
     clear hlt
     by_cases k3 : mv.f0 = 3
     ·rw [k3] at z0
      clear k3
      by_cases hr : rm = 0
      ·have hr0 : (rm != 0) = false := by rw [hr]; rfl
       clear hr
       go_wp2
       refine reader_inner (n := i + 1) ?hc (HRI.out.li.up (by omega)) HM1.out HMB.out ⟨HII.out.2.2.1, HII.out.2.2.2.1⟩ (RB.mk HRI.out.log HRI.out.hi HRI.out.bel) (fun _ _ d _ _ h => by cases d <;> exact h) ?_
       case hc => rfl
       intro u12 u16 u17 u18 u19 u20 u78 u79 u80 u81 u82 u83 u84 u85 u86 u87 u88 u89 u90 u91 u92 u93 u94 u95 u96 u97 u98 u99 u100 u101 u102 u103 u104 u105 u106 u107 u108 u109 u110 u111 u112 u113 u114 u115 u116 u117 u118 u119 u120 u121 u122 u123 u124 u125 u126 u127 u128 u129 u130 u131 u132 u133 u134 u135 u136 u137 u138 u139 u140 u141 u142 u143 u144 u145 u146 u147 u148 u149 u150 u151 u152 u153 u154 u155 u156 u157 u158 u159 u160 u161 u162 u163 u164 u165 u166 u167 u168 u169 u170 u171 u172 u173 u174 u175 u176 u177 u178 u179 w' HJ
       go_wp2
       go_roundg k1
       case measure => omega
       case rel => exact ⟨i + 1, L.total, L, H, rfl, (by first | rfl | (rw [hiw])), ⟨by have h1 := HII.out; omega, by have h1 := HII.out; omega, by have h1 := HII.out; have h2 := HII.out.2.2.2.1; omega, Int.le_refl _, fun _ => rfl⟩, ⟨HJ.log, HJ.hi, HJ.bel, (HRI.out.li.up (by omega))⟩⟩
      ·have hr0 : (rm != 0) = true := bne_iff_ne.mpr hr
       clear hr
       go_wp2
       go_roundg k1
       case measure => omega
       case rel => exact ⟨i + 1, last, L, H, rfl, (by first | rfl | (rw [hiw])), ⟨by have h1 := HII.out; omega, by have h1 := HII.out; omega, HII.out.2.2.1, HII.out.2.2.2.1, fun h => absurd h (by have h1 := HII.out; have h2 := HLT.out; omega)⟩, ⟨(RB.mk HRI.out.log HRI.out.hi HRI.out.bel).log, (RB.mk HRI.out.log HRI.out.hi HRI.out.bel).hi, (RB.mk HRI.out.log HRI.out.hi HRI.out.bel).bel, (HRI.out.li.up (by omega))⟩⟩
     ·have k3b : decide (mv.f0 = 3) = false := decide_eq_false k3
      have k3P : (mv.f0 = 3) = False := eq_false k3
      have k3B : (mv.f0 == 3) = false := beq_false_of_ne k3
      have k3N : (mv.f0 != 3) = true := bne_iff_ne.mpr k3
      have HK3 := Aside0.mk k3
      clear k3
      by_cases hr : rm = 0
      ·have hr0 : (rm != 0) = false := by rw [hr]; rfl
       clear hr
       go_wp2_with (go_at_call 11; (with_reducible refine (do_calls B g L mv.f0 mv.f1.f0.f0 mv.f1.f0.f1 mv.f1.f1 mv.f1.f2 _ HRI.out.log HRI.out.hi HRI.out.li.ok (by have h1 := HMV.out.a1; omega)).mono ?_); rintro e wd ⟨⟨L5, n5, e5⟩, hd, rfl, hl, hb, hk⟩; obtain ⟨N5, hli, hmd⟩ := HRI.out.li.done HN.out hd (by have h1 := HMV.out.k1; have h2 := HK3.out; omega) HMV.out.k0 HMV.out.a1 ⟨HMV.out.v0, HMV.out.v1, HMV.out.n0, HMV.out.n1, HMV.out.q0, HMV.out.q1⟩; have HTO := Aside0.mk (Int.le_trans HII.out.2.2.2.1 (do_le HRI.out.li.ok hd (by have h1 := HMV.out.a1; omega))); obtain ⟨H5, HLI5⟩ : ∃ H5, Aside0 (LgI nm pt way iv st sz (i + 1) L5 H5) := ⟨_, ⟨hli⟩⟩; have HRJ := Aside0.mk (show RB w B g L5 wd from ⟨hl, Nat.le_trans HRI.out.hi hk.size, HRI.out.bel.trans (hb.mono HLO.out)⟩); clear z0 z1 z2 z3 z4 hd hl hb hk hli hmd)
       refine reader_inner (n := i + 1) ?hc HLI5.out HM1.out HMB.out ⟨HII.out.2.2.1, HTO.out⟩ HRJ.out (fun _ _ d _ _ h => by cases d <;> exact h) ?_
       case hc => rfl
       intro u12 u16 u17 u18 u19 u20 u78 u79 u80 u81 u82 u83 u84 u85 u86 u87 u88 u89 u90 u91 u92 u93 u94 u95 u96 u97 u98 u99 u100 u101 u102 u103 u104 u105 u106 u107 u108 u109 u110 u111 u112 u113 u114 u115 u116 u117 u118 u119 u120 u121 u122 u123 u124 u125 u126 u127 u128 u129 u130 u131 u132 u133 u134 u135 u136 u137 u138 u139 u140 u141 u142 u143 u144 u145 u146 u147 u148 u149 u150 u151 u152 u153 u154 u155 u156 u157 u158 u159 u160 u161 u162 u163 u164 u165 u166 u167 u168 u169 u170 u171 u172 u173 u174 u175 u176 u177 u178 u179 w' HJ
       go_wp2
       go_roundg k1
       case measure => omega
       case rel => exact ⟨i + 1, L5.total, L5, H5, rfl, (by first | rfl | (rw [hiw])), ⟨by have h1 := HII.out; omega, by have h1 := HII.out; omega, by have h1 := HII.out; have h2 := HTO.out; omega, Int.le_refl _, fun _ => rfl⟩, ⟨HJ.log, HJ.hi, HJ.bel, HLI5.out⟩⟩
      ·have hr0 : (rm != 0) = true := bne_iff_ne.mpr hr
       clear hr
       go_wp2_with (go_at_call 11; (with_reducible refine (do_calls B g L mv.f0 mv.f1.f0.f0 mv.f1.f0.f1 mv.f1.f1 mv.f1.f2 _ HRI.out.log HRI.out.hi HRI.out.li.ok (by have h1 := HMV.out.a1; omega)).mono ?_); rintro e wd ⟨⟨L5, n5, e5⟩, hd, rfl, hl, hb, hk⟩; obtain ⟨N5, hli, hmd⟩ := HRI.out.li.done HN.out hd (by have h1 := HMV.out.k1; have h2 := HK3.out; omega) HMV.out.k0 HMV.out.a1 ⟨HMV.out.v0, HMV.out.v1, HMV.out.n0, HMV.out.n1, HMV.out.q0, HMV.out.q1⟩; have HTO := Aside0.mk (Int.le_trans HII.out.2.2.2.1 (do_le HRI.out.li.ok hd (by have h1 := HMV.out.a1; omega))); obtain ⟨H5, HLI5⟩ : ∃ H5, Aside0 (LgI nm pt way iv st sz (i + 1) L5 H5) := ⟨_, ⟨hli⟩⟩; have HRJ := Aside0.mk (show RB w B g L5 wd from ⟨hl, Nat.le_trans HRI.out.hi hk.size, HRI.out.bel.trans (hb.mono HLO.out)⟩); clear z0 z1 z2 z3 z4 hd hl hb hk hli hmd)
       go_roundg k1
       case measure => omega
       case rel => exact ⟨i + 1, last, L5, H5, rfl, (by first | rfl | (rw [hiw])), ⟨by have h1 := HII.out; omega, by have h1 := HII.out; omega, HII.out.2.2.1, HTO.out, fun h => absurd h (by have h1 := HII.out; have h2 := HLT.out; omega)⟩, ⟨HRJ.out.log, HRJ.out.hi, HRJ.out.bel, HLI5.out⟩⟩
    ·have ql : decide (i < (l.length : Int)) = false := decide_eq_false hlt
     clear hlt
     go_wp2
     all_goals
      refine reader_inner (n := i + 1) ?hc (HRI.out.li.up (by omega)) HM1.out HMB.out ⟨HII.out.2.2.1, HII.out.2.2.2.1⟩ (RB.mk HRI.out.log HRI.out.hi HRI.out.bel) (fun _ _ d _ _ h => by cases d <;> exact h) ?_
      case hc => rfl
      intro u12 u16 u17 u18 u19 u20 u78 u79 u80 u81 u82 u83 u84 u85 u86 u87 u88 u89 u90 u91 u92 u93 u94 u95 u96 u97 u98 u99 u100 u101 u102 u103 u104 u105 u106 u107 u108 u109 u110 u111 u112 u113 u114 u115 u116 u117 u118 u119 u120 u121 u122 u123 u124 u125 u126 u127 u128 u129 u130 u131 u132 u133 u134 u135 u136 u137 u138 u139 u140 u141 u142 u143 u144 u145 u146 u147 u148 u149 u150 u151 u152 u153 u154 u155 u156 u157 u158 u159 u160 u161 u162 u163 u164 u165 u166 u167 u168 u169 u170 u171 u172 u173 u174 u175 u176 u177 u178 u179 w' HJ
      go_wp2
      go_roundg k1
      case measure => omega
      case rel => exact ⟨i + 1, L.total, L, H, rfl, (by first | rfl | (rw [hiw])), ⟨by have h1 := HII.out; omega, by have h1 := HII.out; omega, by have h1 := HII.out; have h2 := HII.out.2.2.2.1; omega, Int.le_refl _, fun _ => rfl⟩, ⟨HJ.log, HJ.hi, HJ.bel, (HRI.out.li.up (by omega))⟩⟩
def plenumlaw41_TrendReader.f (k : Nat) (a0_0 : ByteArray) (a0_1 : ByteArray) (a0_2 : Int) (a0_3 : Int) (a0_4 : Int) (a0_5 : Int) (a1 : Int) (a2 : Int) (l3 : List (S34)) (a4 : Int) (a5 : Int) : Option (Bool) := if a4 ≤ 9223372036854775807 then some true else none
theorem plenumlaw41_TrendReader.calls (k : Nat) (a0_0 : ByteArray) (a0_1 : ByteArray) (a0_2 : Int) (a0_3 : Int) (a0_4 : Int) (a0_5 : Int) (a1 : Int) (a2 : Int) (A3 : Option Addr) (c3 : Nat) (l3 : List (S34)) (a4 : Int) (a5 : Int) (r : Bool) (w : World) (hG : Glob w) (hr3 : Kd.C k34 w A3 l3.length l3) (hc3 : l3.length ≤ c3) (h : plenumlaw41_TrendReader.f k a0_0 a0_1 a0_2 a0_3 a0_4 a0_5 a1 a2 l3 a4 a5 = some r) :
  Calls Tryd.prog 3 #[.agg #[.string a0_0, .string a0_1, .int .i64 a0_2, .int .i64 a0_3, .int .i64 a0_4, .int .i64 a0_5], .int .i64 a1, .int .i64 a2, .slice A3 l3.length c3, .int .i64 a4, .int .i64 a5] w fun e w' => e = .returned (.bool r) ∧ Below w.heap.size w w' := by
 unfold plenumlaw41_TrendReader.f at h
 split at h
 ·injection h with h
  subst h
  exact reader_walk a0_0 a0_1 a0_2 a0_3 a0_4 a0_5 a1 a2 A3 c3 l3 a4 a5 w hG (by obtain ⟨t, ht⟩ := hG; exact blk_lt ht) hr3 hc3 (by assumption)
 ·cases h
end Go.Proofs.YtbccjcdmpiolpaaDoor.T
end
section
namespace Go.Proofs.YtbccjcdmpiolpaaDoor.Opn
open Go.RowKit Go.Proofs.YtbccjcdmpiolpaaDoorW.PrintWords
def Opn (P : Program) (t : TypeId) {α : Type} (d : Kd α) (V : α → Prop) : Prop :=
 ∀ (H : Type) (enc : TypeId × Value → H) (w : World) (fuel : Nat) (cs : List Value) (x : DataW H × List MemPlace),
  DataW.trod enc P w 0 (fun _ => true) true fuel t cs = some x → (∀ n ∈ DataW.weights P t x.1, n ≤ 140737488351232) → ∃ y, d.K w y cs ∧ V y
theorem opn_int {P : Program} {t : TypeId} {k : IntKind} (ht : P.underlying t = some (.int k)) : Opn P t (Kd.int k) (fun y => (Lit.int k y).wf = true) := by
 intro H enc w fuel cs x h _
 obtain ⟨n, rfl, _, hw⟩ := DataW.trod_int ht h
 exact ⟨n, rfl, hw⟩
theorem opn_string {P : Program} {t : TypeId} (ht : P.underlying t = some .string) : Opn P t Kd.string (fun y => y.size ≤ 140737488351232) := by
 intro H enc w fuel cs x h hw
 obtain ⟨s, rfl, rfl, _⟩ := DataW.trod_string ht h
 refine ⟨s, rfl, ?_⟩
 have := hw s.data.toList.length (by simp [DataW.weights])
 rw [Array.length_toList] at this
 exact this
theorem weights_all {H : Type} {P : Program} {e : TypeId} {d : DataW H} {n : Nat} (hn : n ∈ DataW.weights P e d) : ∀ {l : List (DataW H)}, d ∈ l → n ∈ DataW.weightsAll P e l
 | [], h => by simp at h
 | a :: r, h => by
  simp only [DataW.weightsAll, List.mem_append]
  rcases List.mem_cons.1 h with rfl | h
  ·exact .inl hn
  ·exact .inr (weights_all hn h)
theorem list_of {α : Type} (Q : Nat → α → Prop) : ∀ n, (∀ i, i < n → ∃ y, Q i y) → ∃ l : List α, l.length = n ∧ ∀ i y, l[i]? = some y → Q i y
 | 0, _ => ⟨[], rfl, fun i y h => by simp at h⟩
 | n + 1, h => by
  obtain ⟨l, hl, hq⟩ := list_of Q n (fun i hi => h i (by omega))
  obtain ⟨y, hy⟩ := h n (by omega)
  refine ⟨l ++ [y], by simp [hl], fun i z hz => ?_⟩
  rcases Nat.lt_or_ge i n with hi | hi
  ·rw [List.getElem?_append_left (by omega)] at hz
   exact hq i z hz
  ·have : i = n := by
    have := (List.getElem?_eq_some_iff.1 hz).1
    simp [hl] at this
    omega
   subst this
   rw [List.getElem?_append_right (by omega), hl, Nat.sub_self] at hz
   simp at hz
   subst hz
   exact hy
theorem opn_slice {P : Program} {t e : TypeId} {α : Type} {d : Kd α} {V : α → Prop} {B : Nat} (ht : P.underlying t = some (.slice e)) (hs : P.cellsOf e = d.sz) (hB : P.bytesOf e = B) (he : Opn P e d V) :
  Opn P t (Kd.slice e d) (fun xs => xs.length * B ≤ 140737488351232 ∧ ∀ x ∈ xs, V x) := by
 intro H enc w fuel cs x h hw
 rcases Go.Deep.open_slice ht h with ⟨rfl, rfl⟩ | ⟨a, len, cap, m, n, D, Pl, rfl, _, hl, hm, hmm, rfl, hi⟩
 ·exact ⟨[], ⟨none, 0, rfl, by simp, rfl, by simp, fun hn => absurd hn (by simp)⟩, by simp, by simp⟩
 have hmm' : m = cap := by simpa using hmm
 subst hmm'
 have hw' : (len + (m - len)) * B ≤ 140737488351232 := by
  have := hw ((len + (m - len)) * B) (by simp [DataW.weights, ht, hB])
  exact this
 obtain ⟨l, hlen, hq⟩ := list_of (fun i y => ∃ c, w.cells? 0 (a.add (i * P.cellsOf e)) (P.cellsOf e) = some c ∧ d.K w y c ∧ V y) len (fun i hil => by
  obtain ⟨c, hc, htr⟩ := hi i (by omega)
  obtain ⟨y, hy, hV⟩ := he H enc w n c _ htr (fun k hk => hw k (by
   simp only [DataW.weights, ht, List.mem_cons, List.mem_append]
   exact .inr (.inl (weights_all hk (List.mem_map.2 ⟨i, List.mem_range.2 hil, rfl⟩)))))
  exact ⟨y, c, hc, hy, hV⟩)
 refine ⟨l, ⟨some a, m, by rw [hlen], by omega, ?_⟩, ?_, ?_⟩
 ·refine ⟨rfl, by simp only [maxLen] at hm; omega, fun _ => ⟨a, rfl, fun j p hj => ?_⟩⟩
  obtain ⟨c, hc, hK, _⟩ := hq j p hj
  obtain ⟨_, hcl, hat⟩ := World.cells?_some hc
  refine ⟨c, by rw [hcl, hs], hK, fun i u hu => ?_⟩
  have hil : i < P.cellsOf e := by
   have := (List.getElem?_eq_some_iff.1 hu).1
   omega
  rw [← hs, ← Go.Deep.add_add, hat i hil, hu]
 ·rw [hlen]
  exact Nat.le_trans (Nat.mul_le_mul_right _ (by omega)) hw'
 ·intro y hy
  obtain ⟨i, hi2⟩ := List.mem_iff_getElem?.1 hy
  exact (hq i y hi2).elim fun c h => h.2.2
def OpnF (P : Program) (fs : List Field) {α : Type} (d : Kd α) (V : α → Prop) (o : Nat) : Prop :=
 ∀ (H : Type) (enc : TypeId × Value → H) (w : World) (n : Nat) (cs : List Value) (xs : List (DataW H × List MemPlace)),
  o + d.sz ≤ cs.length →
  (∀ (i : Nat) (f : Field), fs[i]? = some f → ∃ x, xs[i]? = some x ∧ DataW.trod enc P w 0 (fun _ => true) true n f.type ((cs.drop f.offset).take (P.cellsOf f.type)) = some x ∧ ∀ k ∈ DataW.weights P f.type x.1, k ≤ 140737488351232) →
  ∃ y, d.K w y ((cs.drop o).take d.sz) ∧ V y
theorem opn_last {P : Program} {f : Field} {α : Type} {d : Kd α} {V : α → Prop} {o : Nat} (ho : f.offset = o) (hs : P.cellsOf f.type = d.sz) (h : Opn P f.type d V) : OpnF P [f] d V o := by
 intro H enc w n cs xs _ hx
 obtain ⟨x, _, ht, hw⟩ := hx 0 f rfl
 rw [hs, ho] at ht
 exact h H enc w n _ x ht hw
theorem take_two {α : Type} (cs : List α) (o a b : Nat) : (cs.drop o).take (a + b) = (cs.drop o).take a ++ (cs.drop (o + a)).take b := by
 rw [List.take_add, List.drop_drop]
theorem opn_cons {P : Program} {f : Field} {fs : List Field} {α β : Type} {a : Kd α} {b : Kd β} {V : α → Prop} {U : β → Prop} {o : Nat} (ho : f.offset = o) (hs : P.cellsOf f.type = a.sz) (h : Opn P f.type a V) (hr : OpnF P fs b U (o + a.sz)) :
  OpnF P (f :: fs) (Kd.pair a b) (fun y => V y.1 ∧ U y.2) o := by
 intro H enc w n cs xs hl hx
 obtain ⟨x, hx0, ht, hw⟩ := hx 0 f rfl
 rw [hs, ho] at ht
 obtain ⟨y, hy, hV⟩ := h H enc w n _ x ht hw
 have hl' : o + (a.sz + b.sz) ≤ cs.length := hl
 obtain ⟨z, hz, hU⟩ := hr H enc w n cs (xs.drop 1) (by omega) (fun i g hg => by
  obtain ⟨x', h1, h2⟩ := hx (i + 1) g (by simpa using hg)
  exact ⟨x', by rw [List.getElem?_drop, Nat.add_comm]; exact h1, h2⟩)
 exact ⟨(y, z), ⟨_, _, take_two cs o a.sz b.sz, hy, hz⟩, hV, hU⟩
theorem opn_struct {P : Program} {t : TypeId} {fa : Array Field} {fs : List Field} {α β : Type} {d : Kd α} {V : α → Prop} (ht : P.underlying t = some (.struct fa)) (hf : fa.toList = fs) (hs : P.cellsOf t = d.sz) (g : β → α) (g' : α → β) (hg : ∀ y, g (g' y) = y)
  (h : OpnF P fs d V 0) : Opn P t (Kd.iso d g) (fun x => V (g x)) := by
 intro H enc w fuel cs x hx hw
 obtain ⟨xs, n, rfl, rfl, hl, hxl, hfs⟩ := DataW.trod_struct ht hx
 obtain ⟨y, hy, hV⟩ := h H enc w n cs xs (by omega) (fun i f hi => by
  have hi' : fa[i]? = some f := by rw [← hf] at hi; simpa using hi
  have hlt : i < xs.length := by
   rw [hxl]
   exact (Array.getElem?_eq_some_iff.1 hi').1
  have h1 := hfs i f hi'
  refine ⟨xs[i], List.getElem?_eq_getElem hlt, by rw [h1, List.getElem?_eq_getElem hlt], fun k hk => hw k ?_⟩
  simp only [DataW.weights, ht]
  refine DataW.weights_mem_each (j := i) (t := f.type) (d := xs[i].1) ?_ ?_ k hk
  ·rw [List.getElem?_map, hf, hi]
   rfl
  ·rw [List.getElem?_map, List.getElem?_eq_getElem hlt]
   rfl)
 refine ⟨g' y, ?_, ?_⟩
 ·show d.K w (g (g' y)) cs
  rw [hg]
  rw [List.drop_zero, ← hs, ← hl, List.take_length] at hy
  exact hy
 ·show V (g (g' y))
  rw [hg]
  exact hV
theorem arg_slice {H : Type} {enc : TypeId × Value → H} {P : Program} {t e : TypeId} {α : Type} {d : Kd α} {V : List α → Prop} {W : World} {v : Value} {x : DataW H} {ps : List MemPlace} (ho : Opn P t (Kd.slice e d) V) (a : Option Addr) (len cap : Nat) (hv : v = .slice a len cap)
  (h : DataW.Trod enc P W 0 (fun _ => true) true t v x ps) (hw : ∀ n ∈ DataW.weights P t x, n ≤ 140737488351232) : ∃ (A : Option Addr) (c : Nat) (l : List α), v = .slice A l.length c ∧ l.length ≤ c ∧ Kd.C d W A l.length l ∧ V l := by
 obtain ⟨fuel, hf⟩ := h
 obtain ⟨l, ⟨A, c, hc, hl, hC⟩, hV⟩ := ho H enc W fuel _ _ hf hw
 subst hv
 have he : Value.slice a len cap = .slice A l.length c := by simpa [Value.cells] using hc
 exact ⟨A, c, l, he, hl, hC, hV⟩
theorem arg_struct {H : Type} {enc : TypeId × Value → H} {P : Program} {t : TypeId} {α : Type} {d : Kd α} {V : α → Prop} {W : World} {v : Value} {x : DataW H} {ps : List MemPlace} (ho : Opn P t d V) (cs : Array Value) (hv : v = .agg cs)
  (h : DataW.Trod enc P W 0 (fun _ => true) true t v x ps) (hw : ∀ n ∈ DataW.weights P t x, n ≤ 140737488351232) : ∃ y, (∃ l, v = .agg l.toArray ∧ d.K W y l) ∧ V y := by
 obtain ⟨fuel, hf⟩ := h
 obtain ⟨y, hK, hV⟩ := ho H enc W fuel _ _ hf hw
 subst hv
 exact ⟨y, ⟨cs.toList, by simp, hK⟩, hV⟩
theorem arg_weights {H : Type} {P : Program} {ts : List TypeId} {ds : List (DataW H)} (h : (DataW.weightsEach P ts ds).all (· ≤ reachBytes) = true) {j : Nat} {t : TypeId} {d : DataW H} (ht : ts[j]? = some t) (hd : ds[j]? = some d) : ∀ n ∈ DataW.weights P t d, n ≤ 140737488351232 := by
 intro n hn
 have := List.all_eq_true.1 h n (DataW.weights_mem_each ht hd n hn)
 exact of_decide_eq_true this
end Go.Proofs.YtbccjcdmpiolpaaDoor.Opn
end
section
namespace Go.Proofs.YtbccjcdmpiolpaaDoor.T
open Go.RowKit Go.Proofs.YtbccjcdmpiolpaaDoorW.PrintWords Go.Proofs.YtbccjcdmpiolpaaDoor.Opn
def V23 (x : S23) : Prop := (x.f0.size ≤ 140737488351232) ∧ (x.f1.size ≤ 140737488351232) ∧ ((Lit.int .i64 x.f2).wf = true) ∧ ((Lit.int .i64 x.f3).wf = true) ∧ ((Lit.int .i64 x.f4).wf = true) ∧ ((Lit.int .i64 x.f5).wf = true)
theorem opn23 : Opn Tryd.prog 23 k23 V23 := opn_struct Tryd.underlying23 rfl (by kernel_rfl) (fun x : S23 => (x.f0, x.f1, x.f2, x.f3, x.f4, x.f5)) (fun y => (⟨y.1, y.2.1, y.2.2.1, y.2.2.2.1, y.2.2.2.2.1, y.2.2.2.2.2⟩ : S23)) (fun _ => rfl) (opn_cons rfl (by kernel_rfl) (opn_string Tryd.underlying9) (opn_cons rfl (by kernel_rfl) (opn_string Tryd.underlying9) (opn_cons rfl (by kernel_rfl) (opn_int Tryd.underlying3) (opn_cons rfl (by kernel_rfl) (opn_int Tryd.underlying3) (opn_cons rfl (by kernel_rfl) (opn_int Tryd.underlying2) (opn_last rfl (by kernel_rfl) (opn_int Tryd.underlying3)))))))
def V30 (x : S30) : Prop := ((Lit.int .i64 x.f0).wf = true) ∧ ((Lit.int .i64 x.f1).wf = true)
theorem opn30 : Opn Tryd.prog 30 k30 V30 := opn_struct Tryd.underlying30 rfl (by kernel_rfl) (fun x : S30 => (x.f0, x.f1)) (fun y => (⟨y.1, y.2⟩ : S30)) (fun _ => rfl) (opn_cons rfl (by kernel_rfl) (opn_int Tryd.underlying3) (opn_last rfl (by kernel_rfl) (opn_int Tryd.underlying2)))
def V32 (x : S32) : Prop := (V30 x.f0) ∧ ((Lit.int .i64 x.f1).wf = true) ∧ ((Lit.int .i64 x.f2).wf = true)
theorem opn32 : Opn Tryd.prog 32 k32 V32 := opn_struct Tryd.underlying32 rfl (by kernel_rfl) (fun x : S32 => (x.f0, x.f1, x.f2)) (fun y => (⟨y.1, y.2.1, y.2.2⟩ : S32)) (fun _ => rfl) (opn_cons rfl (by kernel_rfl) opn30 (opn_cons rfl (by kernel_rfl) (opn_int Tryd.underlying3) (opn_last rfl (by kernel_rfl) (opn_int Tryd.underlying3))))
def V34 (x : S34) : Prop := ((Lit.int .i64 x.f0).wf = true) ∧ (V32 x.f1)
theorem opn34 : Opn Tryd.prog 34 k34 V34 := opn_struct Tryd.underlying34 rfl (by kernel_rfl) (fun x : S34 => (x.f0, x.f1)) (fun y => (⟨y.1, y.2⟩ : S34)) (fun _ => rfl) (opn_cons rfl (by kernel_rfl) (opn_int Tryd.underlying3) (opn_last rfl (by kernel_rfl) opn32))
end Go.Proofs.YtbccjcdmpiolpaaDoor.T
end
section
namespace Go.Proofs.YtbccjcdmpiolpaaDoor.T
open Go.RowKit Go.Proofs.YtbccjcdmpiolpaaDoorW.PrintWords
def plenumlaw41_TrendReader.Pure : Prop := ∀ (x0 : S23) (a1 : Int) (a2 : Int) (l3 : List (S34)) (a4 : Int) (a5 : Int), (V23 x0) → ((Lit.int .i64 a1).wf = true) → ((Lit.int .i64 a2).wf = true) → (l3.length * 40 ≤ 140737488351232 ∧ ∀ y ∈ l3, V34 y) → ((Lit.int .i64 a4).wf = true) → ((Lit.int .i64 a5).wf = true) → ∃ k, plenumlaw41_TrendReader.f k x0.f0 x0.f1 x0.f2 x0.f3 x0.f4 x0.f5 a1 a2 l3 a4 a5 = some true
end Go.Proofs.YtbccjcdmpiolpaaDoor.T
end
section
namespace Go.Proofs.YtbccjcdmpiolpaaDoor.Pure
open Go.RowKit Go.Proofs.YtbccjcdmpiolpaaDoor.T
theorem TrendReader : plenumlaw41_TrendReader.Pure := by
 unfold plenumlaw41_TrendReader.Pure
 intro x0 a1 a2 l3 a4 a5 h0 h1 h2 h3 h4 h5
 refine ⟨0, ?_⟩
 unfold plenumlaw41_TrendReader.f
 have h := (Lit.wf_int_iff .i64 a4).1 h4
 exact if_pos h.2
end Go.Proofs.YtbccjcdmpiolpaaDoor.Pure
end
section
namespace Go.Proofs.YtbccjcdmpiolpaaDoor.trendReader
open Go.ChangeShapes Go.WideShapes Go.ChangeAt Go.RowKit
open Go.ChangeMaps (open_string shut_string)
open Go.Proofs.YtbccjcdmpiolpaaDoor.Opn Go.Proofs.YtbccjcdmpiolpaaDoorW.PrintWords Go.Proofs.YtbccjcdmpiolpaaDoor.T
set_option linter.unusedVariables false
theorem own : ownKnob Tryd.prog.godebug = none := by kernel_rfl
theorem laidOut : laidOutB Tryd.prog = true := by kernel_rfl
set_option maxHeartbeats 2000000 in
set_option maxRecDepth 100000 in
theorem lifted (os : Os) (started : os.Started) (H : Type) (enc : TypeId × Value → H) :
  ReturnsInHanded {} Tryd.checked os 3 .any (fun w args => (Rows.trendReaderSpec.pre enc Tryd.prog Tryd.f3 Rows.trendReaderRow.domain false w args ∧ laidMet Tryd.prog theLaid w) ∧ sizedMet enc Tryd.prog Tryd.f3 (OpenSpec.ofChange Rows.trendReaderSpec) false w args) (Rows.trendReaderSpec.post enc Tryd.prog Tryd.f3 false true false false) := by
 refine returnsInHanded_of_change_and (C := Tryd.checked) (X := fun w _ => laidMet Tryd.prog theLaid w) (fun _ _ _ hh h => h.of_heap hh) own started (by kernel_rfl) Tryd.func3
  (ChangeSpec.witness_at (enc := enc) (C := Tryd.checked) (os := os) (X := fun w _ => laidMet Tryd.prog theLaid w) false (laidWorld os) #[(.agg #[(.string ⟨#[]⟩), (.string ⟨#[]⟩), (.int .i64 0), (.int .i64 0), (.int .i64 0), (.int .i64 0)]), .int .i64 0, .int .i64 0, .slice none 0 0, .int .i64 0, .int .i64 0] 8 rfl (by kernel_rfl) (by kernel_rfl) (by kernel_rfl) (by kernel_rfl) (by kernel_rfl) (laidWorld_met os _)) ?_
 intro W base args ds gs before hval0 hW hcnd hsz0 hL0 _
 have hGl := glob_of_laid hL0
 have hsz : (DataW.weightsEach Tryd.prog (Tryd.f3.params.toList ++ Rows.trendReaderSpec.plain.varTypes Tryd.prog) (ds ++ gs)).all (· ≤ reachBytes) = true := hsz0
 have hval : ∀ (j : Nat) t v, Tryd.f3.params[j]? = some t → args[j]? = some v → Value.okWide Tryd.prog W .any base t v := hval0
 have hW' := hW
 obtain ⟨p, q, hA0, hV, rfl, hfz, hnd⟩ := hW
 have hA : DataW.TrodAll enc Tryd.prog W 0 (fun _ => true) true Tryd.f3.params.toList args.toList ds p := hA0
 rw [Tryd.params3] at hA hval hsz
 obtain ⟨v0, vs0, d0, ds0, p0, q0, hargs, rfl, rfl, h0, r0⟩ := trodAll_cons hA
 obtain ⟨v1, vs1, d1, ds1, p1, q1, rfl, rfl, rfl, h1, r1⟩ := trodAll_cons r0
 obtain ⟨v2, vs2, d2, ds2, p2, q2, rfl, rfl, rfl, h2, r2⟩ := trodAll_cons r1
 obtain ⟨v3, vs3, d3, ds3, p3, q3, rfl, rfl, rfl, h3, r3⟩ := trodAll_cons r2
 obtain ⟨v4, vs4, d4, ds4, p4, q4, rfl, rfl, rfl, h4, r4⟩ := trodAll_cons r3
 obtain ⟨v5, vs5, d5, ds5, p5, q5, rfl, rfl, rfl, h5, r5⟩ := trodAll_cons r4
 obtain ⟨rfl, rfl, rfl⟩ := trodAll_nil r5
 obtain rfl : args = #[v0, v1, v2, v3, v4, v5] := by cases args; simp_all
 obtain ⟨rfl, rfl⟩ := trodVars_none hV
 have k0 := h0
 have lt0 : ∀ x ∈ p0, x.block < W.heap.size := by obtain ⟨m, hm⟩ := k0; exact DataW.trod_lt m _ _ _ hm
 obtain ⟨cs0, hcs0, _⟩ := okWide_struct Tryd.underlying23 (hval 0 23 v0 rfl rfl)
 obtain ⟨x0, ⟨l0, hv0, hK0⟩, hV0⟩ := arg_struct opn23 cs0 hcs0 h0 (arg_weights hsz (j := 0) (t := 23) rfl rfl)
 obtain rfl := k23_open hK0
 clear hcs0
 subst hv0
 obtain ⟨a1, rfl, rfl, rfl, w1⟩ := open_int Tryd.underlying3 (hval 1 3 v1 rfl rfl) h1
 obtain ⟨a2, rfl, rfl, rfl, w2⟩ := open_int Tryd.underlying3 (hval 2 3 v2 rfl rfl) h2
 have k3 := h3
 have lt3 : ∀ x ∈ p3, x.block < W.heap.size := by obtain ⟨m, hm⟩ := k3; exact DataW.trod_lt m _ _ _ hm
 obtain ⟨b3, len3, cap3, hb3⟩ := okWide_slice Tryd.underlying24 (hval 3 24 v3 rfl rfl)
 obtain ⟨A3, c3, l3, hv3, hc3, hr3, hV3⟩ := arg_slice (opn_slice (B := 40) Tryd.underlying24 (by kernel_rfl) (by kernel_rfl) opn34) b3 len3 cap3 hb3 h3 (arg_weights hsz (j := 3) (t := 24) rfl rfl)
 clear hb3
 subst hv3
 obtain ⟨a4, rfl, rfl, rfl, w4⟩ := open_int Tryd.underlying3 (hval 4 3 v4 rfl rfl) h4
 obtain ⟨a5, rfl, rfl, rfl, w5⟩ := open_int Tryd.underlying3 (hval 5 3 v5 rfl rfl) h5
 clear hA0 hval0 hsz0 hsz
 obtain ⟨k, h⟩ := Pure.TrendReader x0 a1 a2 l3 a4 a5 hV0 w1 w2 hV3 w4 w5
 refine (T.plenumlaw41_TrendReader.calls k x0.f0 x0.f1 x0.f2 x0.f3 x0.f4 x0.f5 a1 a2 A3 c3 l3 a4 a5 true W hGl hr3 hc3 h).mono fun e W' ⟨he, bel0⟩ => ?_
 have bel : Below W.heap.size W W' := bel0
 subst he
 exact ⟨_, rfl, _, _, _, [], _, [], hW', trodAll_mk1 (shut_bool Tryd.underlying4 _), (trodAll_cons_mk (Below.trod laidOut (by kernel_rfl) (of_decide_eq_true (by kernel_rfl)) k0 bel lt0) (trodAll_cons_mk (shut_int Tryd.underlying3 w1) (trodAll_cons_mk (shut_int Tryd.underlying3 w2) (trodAll_cons_mk (Below.trod laidOut (by kernel_rfl) (of_decide_eq_true (by kernel_rfl)) k3 bel lt3) (trodAll_cons_mk (shut_int Tryd.underlying3 w4) (trodAll_cons_mk (shut_int Tryd.underlying3 w5) trodAll_mk0)))))), rfl, bel.frame _, fun h => by cases h⟩
theorem over : Rows.trendReaderRow.holds Tryd.pinned (OpenSpec.ofChange Rows.trendReaderSpec) :=
 OpenClaim.holds_of_wide 3 Tryd.f3 rfl rfl rfl rfl rfl rfl rfl ⟨rfl, rfl, rfl, rfl, rfl⟩ rfl rfl rfl rfl rfl (by kernel_rfl) Tryd.func3 (by kernel_rfl)
  (of_decide_eq_true (by kernel_rfl)) (by unfold Func.isWrapper; first | (rw [if_pos (by decide +kernel)]; kernel_rfl) | (rw [if_neg (by decide +kernel)]; exact ⟨rfl, rfl⟩))
  (fun os started H enc _ => lifted os started H enc)
theorem card_holds : Rows.TrendReaderCardSaid :=
 Claim7.holds_tied_plain_at .later [] [.data] true (true, "81b80afe1b1faae234c654a01e677b6be036c5dcdb6685c327ef4299df421bea") false
  over (fun _ h => by cases h) (by kernel_rfl) (fun _ h => by cases h) trendReader_row_tie rfl ⟨rfl, rfl⟩ (by kernel_rfl) rfl
  (fun f fn hf hfn => by
   obtain rfl : f = 3 := Option.some.inj ((show Tryd.prog.funcNamed "plenum/plenumlaw41.TrendReader" = some 3 by kernel_rfl).symm.trans hf) |>.symm
   obtain rfl : fn = Tryd.f3 := (Option.some.inj (Tryd.func3.symm.trans hfn)).symm
   exact ⟨by kernel_rfl, fun j t ht => by
    rw [Tryd.params3] at ht
    have ho : t = 3 ∨ t = 23 ∨ t = 24 := by
     rcases j with _ | _ | _ | _ | _ | _ | j
     all_goals simp at ht
     all_goals subst ht; simp
    obtain rfl | rfl | rfl := ho
    ·exact (show Tryd.prog.wantsStandIn 3 = false by kernel_rfl)
    ·exact (show Tryd.prog.wantsStandIn 23 = false by kernel_rfl)
    ·exact (show Tryd.prog.wantsStandIn 24 = false by kernel_rfl)⟩)
  (by kernel_rfl)
#print axioms card_holds
end Go.Proofs.YtbccjcdmpiolpaaDoor.trendReader
namespace Go.Proofs.YtbccjcdmpiolpaaDoor
theorem trendReader_holds : Rows.TrendReaderCardSaid := trendReader.card_holds
end Go.Proofs.YtbccjcdmpiolpaaDoor
end
