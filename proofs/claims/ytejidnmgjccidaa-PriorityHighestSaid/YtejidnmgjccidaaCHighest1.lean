/- PriorityHighest: one part of the proof that the law answers true for every input, and that its arguments read afterwards as before. No condition. -/
import Derived.Test.YtejidnmgjccidaaCHighest0
import Derived.Test.YtejidnmgjccidaaProg
import Derived.Below
import Derived.Deep.Draws
import Derived.Deep.AppendLies
import Derived.Maps.AppendAt
import Derived.OwnWalk
import Derived.Laws.BytesArg
import Derived.Laws.MakeOwn
import Derived.Laws.OwnMore
import Derived.Deep.OwnRows
import Derived.Tactics
import Derived.Lib.ConvBytes
import Derived.Laws.Slices
import Derived.WalkKit
import Derived.KernelRfl
import Derived.RowKit3
import Derived.Deep.LoopGhost
import Derived.Deep.QuietTactic
import Derived.BigQuiet
import Derived.WideLaws
import Derived.Deep.DeepCutAuto
import Derived.Deep.CutBlock
import Derived.Deep.RegionHeld3
import Derived.Laws.Rows
import Derived.Lib.AppendStr
import Derived.ArgAppend
import Derived.Laws.IdiomCopy
import Derived.OrdersHeld
import Derived.Laws.BitsLemmas
import Derived.RowKit
import Derived.Outline
import Derived.LoopTactic
section
namespace Go.Proofs.Ytejidnmgjccidaa.R
open Go.RowKit Go.Proofs.YtejidnmgjccidaaW.PrintWords Go.Proofs.YtejidnmgjccidaaW.PrintLast Go.Proofs.YtejidnmgjccidaaW.PrintMore
attribute [local go_sem] max2_int min2_int max_two min_two max_three min_three max_four min_four
set_option linter.unusedVariables false
set_option linter.unusedSimpArgs false
theorem info25 : (Try.prog.info? 25).map (fun i => (i.zero, i.size, i.bytes)) = some (some (.agg #[(.int .i64 0), (.int .i64 0), (.int .i64 0), (.int .i64 0)]), 4, 32) := by kernel_rfl
structure S23 where
  f0 : Int
  f1 : Int
def z23 : S23 := ⟨(0 : Int), (0 : Int)⟩
def k23 : Kd S23 := Kd.iso (Kd.pair (Kd.int .i64) (Kd.int .i64)) (fun x : S23 => (x.f0, x.f1))
theorem k23_open {w : World} {x : S23} {cs : List Value} (h : k23.K w x cs) : cs = [.int .i64 x.f0, .int .i64 x.f1] := by
  obtain ⟨_, _, rfl, rfl, rfl⟩ := h
  exact rfl
theorem k23_mkM (w : World) (base : Nat) (ok : Nat → Prop) (x : S23)  : k23.M w base ok x [.int .i64 x.f0, .int .i64 x.f1] := ⟨[.int .i64 x.f0], [.int .i64 x.f1], rfl, rfl, rfl⟩
structure S25 where
  f0 : Int
  f1 : Int
  f2 : S23
def z25 : S25 := ⟨(0 : Int), (0 : Int), z23⟩
def k25 : Kd S25 := Kd.iso (Kd.pair (Kd.int .i64) (Kd.pair (Kd.int .i64) k23)) (fun x : S25 => (x.f0, x.f1, x.f2))
theorem k25_open {w : World} {x : S25} {cs : List Value} (h : k25.K w x cs) : cs = [.int .i64 x.f0, .int .i64 x.f1, .int .i64 x.f2.f0, .int .i64 x.f2.f1] := by
  obtain ⟨_, _, rfl, rfl, ⟨_, _, rfl, rfl, s2⟩⟩ := h
  obtain rfl := k23_open s2
  exact rfl
theorem k25_mkM (w : World) (base : Nat) (ok : Nat → Prop) (x : S25)  : k25.M w base ok x [.int .i64 x.f0, .int .i64 x.f1, .int .i64 x.f2.f0, .int .i64 x.f2.f1] := ⟨[.int .i64 x.f0], [.int .i64 x.f1, .int .i64 x.f2.f0, .int .i64 x.f2.f1], rfl, rfl, ⟨[.int .i64 x.f1], [.int .i64 x.f2.f0, .int .i64 x.f2.f1], rfl, rfl, (k23_mkM w base ok x.f2 )⟩⟩
def rd_T25 (xs : List S25) (i : Int) : S25 := xs.getD i.toNat z25
theorem at_T25 {w : World} {A : Option Addr} {n : Nat} {xs : List S25} (h : Kd.C k25 w A n xs) (i : Int) (h0 : 0 ≤ i) (h1 : i < n) : ∃ ad , A = some ad ∧ w.cell? (ad.add (i.toNat * 4)) = some (.int .i64 (rd_T25 xs i).f0) ∧ w.cell? ⟨(ad.add (i.toNat * 4)).block, (ad.add (i.toNat * 4)).off + 1, none⟩ = some (.int .i64 (rd_T25 xs i).f1) ∧ w.cell? ⟨(ad.add (i.toNat * 4)).block, (ad.add (i.toNat * 4)).off + 2, none⟩ = some (.int .i64 (rd_T25 xs i).f2.f0) ∧ w.cell? ⟨(ad.add (i.toNat * 4)).block, (ad.add (i.toNat * 4)).off + 3, none⟩ = some (.int .i64 (rd_T25 xs i).f2.f1) := by
  obtain ⟨ad, c, e, _, hK, hc0⟩ := Kd.C_get h z25 i h0 h1
  have hc : ∀ j u, c[j]? = some u → w.cell? (ad.add (i.toNat * 4 + j)) = some u := hc0
  obtain rfl := k25_open hK
  exact ⟨ad, e, hc 0 _ rfl, by rw [← add_field _ _ 1 (by omega)]; exact hc 1 _ rfl, by rw [← add_field _ _ 2 (by omega)]; exact hc 2 _ rfl, by rw [← add_field _ _ 3 (by omega)]; exact hc 3 _ rfl⟩
end Go.Proofs.Ytejidnmgjccidaa.R
end
section
namespace Go.Proofs.Ytejidnmgjccidaa.R
open Go.RowKit Go.Proofs.YtejidnmgjccidaaW.PrintWords Go.Proofs.YtejidnmgjccidaaW.PrintLast Go.Proofs.YtejidnmgjccidaaW.PrintMore
attribute [local go_sem] max2_int min2_int max_two min_two max_three min_three max_four min_four
set_option linter.unusedVariables false
set_option linter.unusedSimpArgs false
theorem eqA23 (d : Nat) (w : World) (x0 y0 : Int) (x1 y1 : Int) :
    (Op.equalIn (d + 2) 23 (.agg #[.int .i64 x0, .int .i64 x1]) (.agg #[.int .i64 y0, .int .i64 y1])).run Try.prog w = .ok (x0 == y0 && (x1 == y1)) w := by
  refine eqA_of Try.underlying23 (by kernel_rfl) ?_
  refine eqf_cons (by rfl) (by go_simp; rfl) (by go_simp; rfl) (by go_simp) ?_
  exact eqf_last (by rfl) (by go_simp; rfl) (by go_simp; rfl) (by go_simp)
end Go.Proofs.Ytejidnmgjccidaa.R
end
section
namespace Go.Proofs.Ytejidnmgjccidaa.R
open Go.RowKit Go.Proofs.YtejidnmgjccidaaW.PrintWords Go.Proofs.YtejidnmgjccidaaW.PrintLast Go.Proofs.YtejidnmgjccidaaW.PrintMore
attribute [local go_sem] max2_int min2_int max_two min_two max_three min_three max_four min_four
set_option linter.unusedVariables false
set_option linter.unusedSimpArgs false
def priority_level.f (a0 : Int) (a1 : Int) : Option (Int) := if a0 < a1 then (some 1) else (if a0 > 16 then (some 1) else (some 0))
set_option maxHeartbeats 8000000 in
set_option maxRecDepth 100000 in
theorem priority_level.calls (a0 : Int) (a1 : Int) (r : Int) (w : World) (h : priority_level.f a0 a1 = some r) :
    Calls Try.prog 30 #[.int .i64 a0, .int .i64 a1] w fun e w' => e = .returned (.int .i64 r) ∧ Drawn0 w w' := by
  have H : (if a0 < a1 then (some 1) else (if a0 > 16 then (some 1) else (some 0))) = some r := h
  clear h
  by_cases c3 : a0 < a1
  · rw [if_pos c3] at H
    have c3b0 : decide (a0 < a1) = true := decide_eq_true c3
    clear c3
    obtain rfl := Option.some.inj H
    go_enter Try.func30, Try.ntmps30
    go_wp2
    go_ret
    exact ⟨by first | rfl | (simp; done) | (simp [*]; done), by repeat (first | exact Drawn0.refl _ | apply Drawn0.step)⟩
  · rw [if_neg c3] at H
    have c3b0 : decide (a0 < a1) = false := decide_eq_false c3
    clear c3
    by_cases c4 : a0 > 16
    · rw [if_pos c4] at H
      have c4b0 : decide (16 < a0) = true := decide_eq_true c4
      clear c4
      obtain rfl := Option.some.inj H
      go_enter Try.func30, Try.ntmps30
      go_wp2
      go_ret
      exact ⟨by first | rfl | (simp; done) | (simp [*]; done), by repeat (first | exact Drawn0.refl _ | apply Drawn0.step)⟩
    · rw [if_neg c4] at H
      have c4b0 : decide (16 < a0) = false := decide_eq_false c4
      clear c4
      obtain rfl := Option.some.inj H
      go_enter Try.func30, Try.ntmps30
      go_wp2
      go_ret
      exact ⟨by first | rfl | (simp; done) | (simp [*]; done), by repeat (first | exact Drawn0.refl _ | apply Drawn0.step)⟩
end Go.Proofs.Ytejidnmgjccidaa.R
end
section
namespace Go.Proofs.Ytejidnmgjccidaa.R
open Go.RowKit Go.Proofs.YtejidnmgjccidaaW.PrintWords Go.Proofs.YtejidnmgjccidaaW.PrintLast Go.Proofs.YtejidnmgjccidaaW.PrintMore
attribute [local go_sem] max2_int min2_int max_two min_two max_three min_three max_four min_four
set_option linter.unusedVariables false
set_option linter.unusedSimpArgs false
def priority_possible.f (a0_0 : Int) (a0_1 : Int) : Option (Bool) := if a0_0 = 0 then (some (a0_1 == 0)) else (if a0_0 = 1 then (if a0_1 ≥ (-1000000000000) then (some (decide (a0_1 ≤ 1000000000000))) else (some false)) else (if a0_0 = 2 then (if a0_1 = 0 then (some true) else (some (a0_1 == 1))) else (if a0_0 = 3 then (if a0_1 ≥ 1 then (some (decide (a0_1 ≤ 16))) else (some false)) else (some false))))
set_option maxHeartbeats 8000000 in
set_option maxRecDepth 100000 in
theorem priority_possible.calls (a0_0 : Int) (a0_1 : Int) (r : Bool) (w : World) (h : priority_possible.f a0_0 a0_1 = some r) :
    Calls Try.prog 31 #[.agg #[.int .i64 a0_0, .int .i64 a0_1]] w fun e w' => e = .returned (.bool r) ∧ Below w.heap.size w w' := by
  have hu23 := Try.underlying23
  have HB := Aside0.mk (Below.refl w.heap.size w)
  have H : (if a0_0 = 0 then (some (a0_1 == 0)) else (if a0_0 = 1 then (if a0_1 ≥ (-1000000000000) then (some (decide (a0_1 ≤ 1000000000000))) else (some false)) else (if a0_0 = 2 then (if a0_1 = 0 then (some true) else (some (a0_1 == 1))) else (if a0_0 = 3 then (if a0_1 ≥ 1 then (some (decide (a0_1 ≤ 16))) else (some false)) else (some false))))) = some r := h
  clear h
  by_cases c2 : a0_0 = 0
  · rw [if_pos c2] at H
    have c2b0 : (a0_0 == 0) = true := beq_iff_eq.mpr c2
    have c2b1 : (a0_0 != 0) = false := bne_eq_false_iff_eq.mpr c2
    clear c2
    obtain rfl := Option.some.inj H
    go_enter Try.func31, Try.ntmps31
    go_wp2_with (first | ((with_reducible refine gate_dst (N := 1) rfl ?_); refine box_event ?hg (N := 1) ?hd (cs := #[.int .i64 a0_0, .int .i64 a0_1]) (t := 23) ?hr ?_; (case hd => rfl); (case hg => rfl); (case hr => first | (go_simp; done) | (go_simp; rfl)); intro gb101 hg w3 hbox hb; have n0_ := Aside0.mk (below_step (by repeat (first | (with_reducible first | exact HB.out | apply below_alloc | apply pw_below_drewN | apply below_drew1) | exact HB.out)) hb); have n1_ := Aside0.mk (hbox); have n2_ := Aside0.mk ((by rw [hg]; exact (below_size (by repeat (first | (with_reducible first | exact HB.out | apply below_alloc | apply pw_below_drewN | apply below_drew1) | exact HB.out))) : w.heap.size ≤ gb101)); have n3_ := Aside0.mk ((by rw [hg]; exact (below_size (by repeat (first | (with_reducible first | exact HB.out | apply below_alloc | apply pw_below_drewN | apply below_drew1) | exact HB.out))) : w.heap.size ≤ gb101)); clear HB; have HB := n0_; have BK101 := n1_; have GW101 := n2_; have GE101 := n3_; clear n0_ n1_ n2_ n3_; clear hb hbox hg; have hcz4_0 : w3.cell? ⟨gb101, 0, none⟩ = some (.int .i64 a0_0) := (blk_cell BK101.out 0).trans rfl; have hcz4_1 : w3.cell? ⟨gb101, 1, none⟩ = some (.int .i64 a0_1) := (blk_cell BK101.out 1).trans rfl; have hfz4_0 := blk_frozen BK101.out 0; have hfz4_1 := blk_frozen BK101.out 1))
    go_ret
    exact ⟨by first | rfl | (simp [errW_none, errW_some] <;> rfl) | (simp [*, errW_none, errW_some] <;> rfl), by repeat (first | (with_reducible first | exact HB.out | apply below_alloc | apply pw_below_drewN | apply below_drew1 | refine below_set ?_ GE101.out) | exact HB.out)⟩
  · rw [if_neg c2] at H
    have c2b0 : (a0_0 == 0) = false := beq_eq_false_iff_ne.mpr c2
    have c2b1 : (a0_0 != 0) = true := bne_iff_ne.mpr c2
    by_cases c5 : a0_0 = 1
    · rw [if_pos c5] at H
      have c5b0 : (a0_0 == 1) = true := beq_iff_eq.mpr c5
      have c5b1 : (a0_0 != 1) = false := bne_eq_false_iff_eq.mpr c5
      clear c5
      by_cases c6 : a0_1 ≥ (-1000000000000)
      · rw [if_pos c6] at H
        have c6b0 : decide ((-1000000000000) ≤ a0_1) = true := decide_eq_true c6
        clear c6
        obtain rfl := Option.some.inj H
        go_enter Try.func31, Try.ntmps31
        go_wp2_with (first | ((with_reducible refine gate_dst (N := 1) rfl ?_); refine box_event ?hg (N := 1) ?hd (cs := #[.int .i64 a0_0, .int .i64 a0_1]) (t := 23) ?hr ?_; (case hd => rfl); (case hg => rfl); (case hr => first | (go_simp; done) | (go_simp; rfl)); intro gb101 hg w7 hbox hb; have n0_ := Aside0.mk (below_step (by repeat (first | (with_reducible first | exact HB.out | apply below_alloc | apply pw_below_drewN | apply below_drew1) | exact HB.out)) hb); have n1_ := Aside0.mk (hbox); have n2_ := Aside0.mk ((by rw [hg]; exact (below_size (by repeat (first | (with_reducible first | exact HB.out | apply below_alloc | apply pw_below_drewN | apply below_drew1) | exact HB.out))) : w.heap.size ≤ gb101)); have n3_ := Aside0.mk ((by rw [hg]; exact (below_size (by repeat (first | (with_reducible first | exact HB.out | apply below_alloc | apply pw_below_drewN | apply below_drew1) | exact HB.out))) : w.heap.size ≤ gb101)); clear HB; have HB := n0_; have BK101 := n1_; have GW101 := n2_; have GE101 := n3_; clear n0_ n1_ n2_ n3_; clear hb hbox hg; have hcz8_0 : w7.cell? ⟨gb101, 0, none⟩ = some (.int .i64 a0_0) := (blk_cell BK101.out 0).trans rfl; have hcz8_1 : w7.cell? ⟨gb101, 1, none⟩ = some (.int .i64 a0_1) := (blk_cell BK101.out 1).trans rfl; have hfz8_0 := blk_frozen BK101.out 0; have hfz8_1 := blk_frozen BK101.out 1))
        go_ret
        exact ⟨by first | rfl | (simp [errW_none, errW_some] <;> rfl) | (simp [*, errW_none, errW_some] <;> rfl), by repeat (first | (with_reducible first | exact HB.out | apply below_alloc | apply pw_below_drewN | apply below_drew1 | refine below_set ?_ GE101.out) | exact HB.out)⟩
      · rw [if_neg c6] at H
        have c6b0 : decide ((-1000000000000) ≤ a0_1) = false := decide_eq_false c6
        clear c6
        obtain rfl := Option.some.inj H
        go_enter Try.func31, Try.ntmps31
        go_wp2_with (first | ((with_reducible refine gate_dst (N := 1) rfl ?_); refine box_event ?hg (N := 1) ?hd (cs := #[.int .i64 a0_0, .int .i64 a0_1]) (t := 23) ?hr ?_; (case hd => rfl); (case hg => rfl); (case hr => first | (go_simp; done) | (go_simp; rfl)); intro gb101 hg w9 hbox hb; have n0_ := Aside0.mk (below_step (by repeat (first | (with_reducible first | exact HB.out | apply below_alloc | apply pw_below_drewN | apply below_drew1) | exact HB.out)) hb); have n1_ := Aside0.mk (hbox); have n2_ := Aside0.mk ((by rw [hg]; exact (below_size (by repeat (first | (with_reducible first | exact HB.out | apply below_alloc | apply pw_below_drewN | apply below_drew1) | exact HB.out))) : w.heap.size ≤ gb101)); have n3_ := Aside0.mk ((by rw [hg]; exact (below_size (by repeat (first | (with_reducible first | exact HB.out | apply below_alloc | apply pw_below_drewN | apply below_drew1) | exact HB.out))) : w.heap.size ≤ gb101)); clear HB; have HB := n0_; have BK101 := n1_; have GW101 := n2_; have GE101 := n3_; clear n0_ n1_ n2_ n3_; clear hb hbox hg; have hcz10_0 : w9.cell? ⟨gb101, 0, none⟩ = some (.int .i64 a0_0) := (blk_cell BK101.out 0).trans rfl; have hcz10_1 : w9.cell? ⟨gb101, 1, none⟩ = some (.int .i64 a0_1) := (blk_cell BK101.out 1).trans rfl; have hfz10_0 := blk_frozen BK101.out 0; have hfz10_1 := blk_frozen BK101.out 1))
        go_ret
        exact ⟨by first | rfl | (simp [errW_none, errW_some] <;> rfl) | (simp [*, errW_none, errW_some] <;> rfl), by repeat (first | (with_reducible first | exact HB.out | apply below_alloc | apply pw_below_drewN | apply below_drew1 | refine below_set ?_ GE101.out) | exact HB.out)⟩
    · rw [if_neg c5] at H
      have c5b0 : (a0_0 == 1) = false := beq_eq_false_iff_ne.mpr c5
      have c5b1 : (a0_0 != 1) = true := bne_iff_ne.mpr c5
      by_cases c11 : a0_0 = 2
      · rw [if_pos c11] at H
        have c11b0 : (a0_0 == 2) = true := beq_iff_eq.mpr c11
        have c11b1 : (a0_0 != 2) = false := bne_eq_false_iff_eq.mpr c11
        clear c11
        by_cases c12 : a0_1 = 0
        · rw [if_pos c12] at H
          have c12b0 : (a0_1 == 0) = true := beq_iff_eq.mpr c12
          have c12b1 : (a0_1 != 0) = false := bne_eq_false_iff_eq.mpr c12
          clear c12
          obtain rfl := Option.some.inj H
          go_enter Try.func31, Try.ntmps31
          go_wp2_with (first | ((with_reducible refine gate_dst (N := 1) rfl ?_); refine box_event ?hg (N := 1) ?hd (cs := #[.int .i64 a0_0, .int .i64 a0_1]) (t := 23) ?hr ?_; (case hd => rfl); (case hg => rfl); (case hr => first | (go_simp; done) | (go_simp; rfl)); intro gb101 hg w13 hbox hb; have n0_ := Aside0.mk (below_step (by repeat (first | (with_reducible first | exact HB.out | apply below_alloc | apply pw_below_drewN | apply below_drew1) | exact HB.out)) hb); have n1_ := Aside0.mk (hbox); have n2_ := Aside0.mk ((by rw [hg]; exact (below_size (by repeat (first | (with_reducible first | exact HB.out | apply below_alloc | apply pw_below_drewN | apply below_drew1) | exact HB.out))) : w.heap.size ≤ gb101)); have n3_ := Aside0.mk ((by rw [hg]; exact (below_size (by repeat (first | (with_reducible first | exact HB.out | apply below_alloc | apply pw_below_drewN | apply below_drew1) | exact HB.out))) : w.heap.size ≤ gb101)); clear HB; have HB := n0_; have BK101 := n1_; have GW101 := n2_; have GE101 := n3_; clear n0_ n1_ n2_ n3_; clear hb hbox hg; have hcz14_0 : w13.cell? ⟨gb101, 0, none⟩ = some (.int .i64 a0_0) := (blk_cell BK101.out 0).trans rfl; have hcz14_1 : w13.cell? ⟨gb101, 1, none⟩ = some (.int .i64 a0_1) := (blk_cell BK101.out 1).trans rfl; have hfz14_0 := blk_frozen BK101.out 0; have hfz14_1 := blk_frozen BK101.out 1))
          go_ret
          exact ⟨by first | rfl | (simp [errW_none, errW_some] <;> rfl) | (simp [*, errW_none, errW_some] <;> rfl), by repeat (first | (with_reducible first | exact HB.out | apply below_alloc | apply pw_below_drewN | apply below_drew1 | refine below_set ?_ GE101.out) | exact HB.out)⟩
        · rw [if_neg c12] at H
          have c12b0 : (a0_1 == 0) = false := beq_eq_false_iff_ne.mpr c12
          have c12b1 : (a0_1 != 0) = true := bne_iff_ne.mpr c12
          obtain rfl := Option.some.inj H
          go_enter Try.func31, Try.ntmps31
          go_wp2_with (first | ((with_reducible refine gate_dst (N := 1) rfl ?_); refine box_event ?hg (N := 1) ?hd (cs := #[.int .i64 a0_0, .int .i64 a0_1]) (t := 23) ?hr ?_; (case hd => rfl); (case hg => rfl); (case hr => first | (go_simp; done) | (go_simp; rfl)); intro gb101 hg w15 hbox hb; have n0_ := Aside0.mk (below_step (by repeat (first | (with_reducible first | exact HB.out | apply below_alloc | apply pw_below_drewN | apply below_drew1) | exact HB.out)) hb); have n1_ := Aside0.mk (hbox); have n2_ := Aside0.mk ((by rw [hg]; exact (below_size (by repeat (first | (with_reducible first | exact HB.out | apply below_alloc | apply pw_below_drewN | apply below_drew1) | exact HB.out))) : w.heap.size ≤ gb101)); have n3_ := Aside0.mk ((by rw [hg]; exact (below_size (by repeat (first | (with_reducible first | exact HB.out | apply below_alloc | apply pw_below_drewN | apply below_drew1) | exact HB.out))) : w.heap.size ≤ gb101)); clear HB; have HB := n0_; have BK101 := n1_; have GW101 := n2_; have GE101 := n3_; clear n0_ n1_ n2_ n3_; clear hb hbox hg; have hcz16_0 : w15.cell? ⟨gb101, 0, none⟩ = some (.int .i64 a0_0) := (blk_cell BK101.out 0).trans rfl; have hcz16_1 : w15.cell? ⟨gb101, 1, none⟩ = some (.int .i64 a0_1) := (blk_cell BK101.out 1).trans rfl; have hfz16_0 := blk_frozen BK101.out 0; have hfz16_1 := blk_frozen BK101.out 1))
          go_ret
          exact ⟨by first | rfl | (simp [errW_none, errW_some] <;> rfl) | (simp [*, errW_none, errW_some] <;> rfl), by repeat (first | (with_reducible first | exact HB.out | apply below_alloc | apply pw_below_drewN | apply below_drew1 | refine below_set ?_ GE101.out) | exact HB.out)⟩
      · rw [if_neg c11] at H
        have c11b0 : (a0_0 == 2) = false := beq_eq_false_iff_ne.mpr c11
        have c11b1 : (a0_0 != 2) = true := bne_iff_ne.mpr c11
        by_cases c17 : a0_0 = 3
        · rw [if_pos c17] at H
          have c17b0 : (a0_0 == 3) = true := beq_iff_eq.mpr c17
          have c17b1 : (a0_0 != 3) = false := bne_eq_false_iff_eq.mpr c17
          clear c17
          by_cases c18 : a0_1 ≥ 1
          · rw [if_pos c18] at H
            have c18b0 : decide (1 ≤ a0_1) = true := decide_eq_true c18
            clear c18
            obtain rfl := Option.some.inj H
            go_enter Try.func31, Try.ntmps31
            go_wp2_with (first | ((with_reducible refine gate_dst (N := 1) rfl ?_); refine box_event ?hg (N := 1) ?hd (cs := #[.int .i64 a0_0, .int .i64 a0_1]) (t := 23) ?hr ?_; (case hd => rfl); (case hg => rfl); (case hr => first | (go_simp; done) | (go_simp; rfl)); intro gb101 hg w19 hbox hb; have n0_ := Aside0.mk (below_step (by repeat (first | (with_reducible first | exact HB.out | apply below_alloc | apply pw_below_drewN | apply below_drew1) | exact HB.out)) hb); have n1_ := Aside0.mk (hbox); have n2_ := Aside0.mk ((by rw [hg]; exact (below_size (by repeat (first | (with_reducible first | exact HB.out | apply below_alloc | apply pw_below_drewN | apply below_drew1) | exact HB.out))) : w.heap.size ≤ gb101)); have n3_ := Aside0.mk ((by rw [hg]; exact (below_size (by repeat (first | (with_reducible first | exact HB.out | apply below_alloc | apply pw_below_drewN | apply below_drew1) | exact HB.out))) : w.heap.size ≤ gb101)); clear HB; have HB := n0_; have BK101 := n1_; have GW101 := n2_; have GE101 := n3_; clear n0_ n1_ n2_ n3_; clear hb hbox hg; have hcz20_0 : w19.cell? ⟨gb101, 0, none⟩ = some (.int .i64 a0_0) := (blk_cell BK101.out 0).trans rfl; have hcz20_1 : w19.cell? ⟨gb101, 1, none⟩ = some (.int .i64 a0_1) := (blk_cell BK101.out 1).trans rfl; have hfz20_0 := blk_frozen BK101.out 0; have hfz20_1 := blk_frozen BK101.out 1))
            go_ret
            exact ⟨by first | rfl | (simp [errW_none, errW_some] <;> rfl) | (simp [*, errW_none, errW_some] <;> rfl), by repeat (first | (with_reducible first | exact HB.out | apply below_alloc | apply pw_below_drewN | apply below_drew1 | refine below_set ?_ GE101.out) | exact HB.out)⟩
          · rw [if_neg c18] at H
            have c18b0 : decide (1 ≤ a0_1) = false := decide_eq_false c18
            clear c18
            obtain rfl := Option.some.inj H
            go_enter Try.func31, Try.ntmps31
            go_wp2_with (first | ((with_reducible refine gate_dst (N := 1) rfl ?_); refine box_event ?hg (N := 1) ?hd (cs := #[.int .i64 a0_0, .int .i64 a0_1]) (t := 23) ?hr ?_; (case hd => rfl); (case hg => rfl); (case hr => first | (go_simp; done) | (go_simp; rfl)); intro gb101 hg w21 hbox hb; have n0_ := Aside0.mk (below_step (by repeat (first | (with_reducible first | exact HB.out | apply below_alloc | apply pw_below_drewN | apply below_drew1) | exact HB.out)) hb); have n1_ := Aside0.mk (hbox); have n2_ := Aside0.mk ((by rw [hg]; exact (below_size (by repeat (first | (with_reducible first | exact HB.out | apply below_alloc | apply pw_below_drewN | apply below_drew1) | exact HB.out))) : w.heap.size ≤ gb101)); have n3_ := Aside0.mk ((by rw [hg]; exact (below_size (by repeat (first | (with_reducible first | exact HB.out | apply below_alloc | apply pw_below_drewN | apply below_drew1) | exact HB.out))) : w.heap.size ≤ gb101)); clear HB; have HB := n0_; have BK101 := n1_; have GW101 := n2_; have GE101 := n3_; clear n0_ n1_ n2_ n3_; clear hb hbox hg; have hcz22_0 : w21.cell? ⟨gb101, 0, none⟩ = some (.int .i64 a0_0) := (blk_cell BK101.out 0).trans rfl; have hcz22_1 : w21.cell? ⟨gb101, 1, none⟩ = some (.int .i64 a0_1) := (blk_cell BK101.out 1).trans rfl; have hfz22_0 := blk_frozen BK101.out 0; have hfz22_1 := blk_frozen BK101.out 1))
            go_ret
            exact ⟨by first | rfl | (simp [errW_none, errW_some] <;> rfl) | (simp [*, errW_none, errW_some] <;> rfl), by repeat (first | (with_reducible first | exact HB.out | apply below_alloc | apply pw_below_drewN | apply below_drew1 | refine below_set ?_ GE101.out) | exact HB.out)⟩
        · rw [if_neg c17] at H
          have c17b0 : (a0_0 == 3) = false := beq_eq_false_iff_ne.mpr c17
          have c17b1 : (a0_0 != 3) = true := bne_iff_ne.mpr c17
          obtain rfl := Option.some.inj H
          go_enter Try.func31, Try.ntmps31
          go_wp2_with (first | ((with_reducible refine gate_dst (N := 1) rfl ?_); refine box_event ?hg (N := 1) ?hd (cs := #[.int .i64 a0_0, .int .i64 a0_1]) (t := 23) ?hr ?_; (case hd => rfl); (case hg => rfl); (case hr => first | (go_simp; done) | (go_simp; rfl)); intro gb101 hg w23 hbox hb; have n0_ := Aside0.mk (below_step (by repeat (first | (with_reducible first | exact HB.out | apply below_alloc | apply pw_below_drewN | apply below_drew1) | exact HB.out)) hb); have n1_ := Aside0.mk (hbox); have n2_ := Aside0.mk ((by rw [hg]; exact (below_size (by repeat (first | (with_reducible first | exact HB.out | apply below_alloc | apply pw_below_drewN | apply below_drew1) | exact HB.out))) : w.heap.size ≤ gb101)); have n3_ := Aside0.mk ((by rw [hg]; exact (below_size (by repeat (first | (with_reducible first | exact HB.out | apply below_alloc | apply pw_below_drewN | apply below_drew1) | exact HB.out))) : w.heap.size ≤ gb101)); clear HB; have HB := n0_; have BK101 := n1_; have GW101 := n2_; have GE101 := n3_; clear n0_ n1_ n2_ n3_; clear hb hbox hg; have hcz24_0 : w23.cell? ⟨gb101, 0, none⟩ = some (.int .i64 a0_0) := (blk_cell BK101.out 0).trans rfl; have hcz24_1 : w23.cell? ⟨gb101, 1, none⟩ = some (.int .i64 a0_1) := (blk_cell BK101.out 1).trans rfl; have hfz24_0 := blk_frozen BK101.out 0; have hfz24_1 := blk_frozen BK101.out 1))
          go_ret
          exact ⟨by first | rfl | (simp [errW_none, errW_some] <;> rfl) | (simp [*, errW_none, errW_some] <;> rfl), by repeat (first | (with_reducible first | exact HB.out | apply below_alloc | apply pw_below_drewN | apply below_drew1 | refine below_set ?_ GE101.out) | exact HB.out)⟩
end Go.Proofs.Ytejidnmgjccidaa.R
end
section
namespace Go.Proofs.Ytejidnmgjccidaa.R
open Go.RowKit Go.Proofs.YtejidnmgjccidaaW.PrintWords Go.Proofs.YtejidnmgjccidaaW.PrintLast Go.Proofs.YtejidnmgjccidaaW.PrintMore
attribute [local go_sem] max2_int min2_int max_two min_two max_three min_three max_four min_four
set_option linter.unusedVariables false
set_option linter.unusedSimpArgs false
def priority_Check.j0 : Nat → Bool → Int → Int → Int → Int → Option (Int)
  | 0, _, _, _, _, _ => none
  | k + 1, x11, x103000, x103001, x103002, x103003 => if x11 = true then (some 6) else ((priority_possible.f x103002 x103003).bind fun t104 => (if t104 = true then (some 0) else (some 11)))
def priority_Check.f (k : Nat) (a0_0 : Int) (a0_1 : Int) (a0_2 : Int) (a0_3 : Int) : Option (Int) := (priority_level.f a0_0 1).bind fun t103 => (if t103 = 0 then (if a0_1 < 1 then (priority_Check.j0 k true a0_0 a0_1 a0_2 a0_3) else (priority_Check.j0 k (decide (a0_1 > 1000000000)) a0_0 a0_1 a0_2 a0_3)) else (some t103))
theorem priority_Check.mono_l : ∀ k, (∀ y0 y1 y2 y3 y4, LeO (priority_Check.j0 k y0 y1 y2 y3 y4) (priority_Check.j0 (k + 1) y0 y1 y2 y3 y4))
  | 0 => fun _ _ _ _ _ r h => by simp [priority_Check.j0] at h
  | k + 1 => by
    have ih0 := priority_Check.mono_l k
    · intro y0 y1 y2 y3 y4
      unfold priority_Check.j0
      repeat' first
      | (with_reducible exact ih0 _ _ _ _ _)
      | (with_reducible exact LeO.refl _)
      | (with_reducible exact LeO.none _)
      | (with_reducible refine LeO.ite ?_ ?_)
      | (with_reducible refine LeO.bind ?_ (fun _ => ?_))
      | exact ih0 _ _ _ _ _
      | exact LeO.none _
      | refine LeO.ite ?_ ?_
      | refine LeO.bind ?_ (fun _ => ?_)
theorem priority_Check.mono : ∀ a0 a1 a2 a3 k, LeO (priority_Check.f k a0 a1 a2 a3) (priority_Check.f (k + 1) a0 a1 a2 a3) := by
  intro a0 a1 a2 a3 k
  have ih0 := priority_Check.mono_l k
  unfold priority_Check.f
  repeat' first
      | (with_reducible exact ih0 _ _ _ _ _)
      | (with_reducible exact LeO.refl _)
      | (with_reducible exact LeO.none _)
      | (with_reducible refine LeO.ite ?_ ?_)
      | (with_reducible refine LeO.bind ?_ (fun _ => ?_))
      | exact ih0 _ _ _ _ _
      | exact LeO.none _
      | refine LeO.ite ?_ ?_
      | refine LeO.bind ?_ (fun _ => ?_)
set_option maxHeartbeats 8000000 in
set_option maxRecDepth 100000 in
theorem priority_Check.calls (k : Nat) (a0_0 : Int) (a0_1 : Int) (a0_2 : Int) (a0_3 : Int) (r : Int) (w : World) (h : priority_Check.f k a0_0 a0_1 a0_2 a0_3 = some r) :
    Calls Try.prog 12 #[.agg #[.int .i64 a0_0, .int .i64 a0_1, .int .i64 a0_2, .int .i64 a0_3]] w fun e w' => e = .returned (.int .i64 r) ∧ Below w.heap.size w w' := by
  have hu25 := Try.underlying25
  have hu23 := Try.underlying23
  have HB := Aside0.mk (Below.refl w.heap.size w)
  have H : ((priority_level.f a0_0 1).bind fun t103 => (if t103 = 0 then (if a0_1 < 1 then (priority_Check.j0 k true a0_0 a0_1 a0_2 a0_3) else (priority_Check.j0 k (decide (a0_1 > 1000000000)) a0_0 a0_1 a0_2 a0_3)) else (some t103))) = some r := h
  clear h
  replace H := Option.bind_eq_some_iff.mp H
  obtain ⟨t103, A20, H⟩ := H
  replace H : (if t103 = 0 then (if a0_1 < 1 then (priority_Check.j0 k true a0_0 a0_1 a0_2 a0_3) else (priority_Check.j0 k (decide (a0_1 > 1000000000)) a0_0 a0_1 a0_2 a0_3)) else (some t103)) = some r := H
  have A2 := Aside0.mk A20
  clear A20
  by_cases c3 : t103 = 0
  · rw [if_pos c3] at H
    have c3b0 : (t103 == 0) = true := beq_iff_eq.mpr c3
    have c3b1 : (t103 != 0) = false := bne_eq_false_iff_eq.mpr c3
    clear c3
    have HC4 := Aside0.mk H
    clear H
    go_enter Try.func12, Try.ntmps12
    go_upto_region 4 with (first | ((with_reducible refine gate_dst (N := 1) rfl ?_); refine box_event ?hg (N := 1) ?hd (cs := #[.int .i64 a0_0, .int .i64 a0_1, .int .i64 a0_2, .int .i64 a0_3]) (t := 25) ?hr ?_; (case hd => rfl); (case hg => rfl); (case hr => first | (go_simp; done) | (go_simp; rfl)); intro gb102 hg w5 hbox hb; have n0_ := Aside0.mk (below_step (by repeat (first | (with_reducible first | exact HB.out | apply below_alloc | apply pw_below_drewN | apply below_drew1) | exact HB.out)) hb); have n1_ := Aside0.mk (hbox); have n2_ := Aside0.mk ((by rw [hg]; exact (below_size (by repeat (first | (with_reducible first | exact HB.out | apply below_alloc | apply pw_below_drewN | apply below_drew1) | exact HB.out))) : w.heap.size ≤ gb102)); have n3_ := Aside0.mk ((by rw [hg]; exact (below_size (by repeat (first | (with_reducible first | exact HB.out | apply below_alloc | apply pw_below_drewN | apply below_drew1) | exact HB.out))) : w.heap.size ≤ gb102)); clear HB; have HB := n0_; have BK102 := n1_; have GW102 := n2_; have GE102 := n3_; clear n0_ n1_ n2_ n3_; clear hb hbox hg; have hcz6_0 : w5.cell? ⟨gb102, 0, none⟩ = some (.int .i64 a0_0) := (blk_cell BK102.out 0).trans rfl; have hcz6_1 : w5.cell? ⟨gb102, 1, none⟩ = some (.int .i64 a0_1) := (blk_cell BK102.out 1).trans rfl; have hcz6_2 : w5.cell? ⟨gb102, 2, none⟩ = some (.int .i64 a0_2) := (blk_cell BK102.out 2).trans rfl; have hcz6_3 : w5.cell? ⟨gb102, 3, none⟩ = some (.int .i64 a0_3) := (blk_cell BK102.out 3).trans rfl; have hfz6_0 := blk_frozen BK102.out 0; have hfz6_1 := blk_frozen BK102.out 1; have hfz6_2 := blk_frozen BK102.out 2; have hfz6_3 := blk_frozen BK102.out 3) | ((with_reducible refine gate_callee (f := 30) rfl ?_); refine goesL_ (some 6) rfl rfl Try.func30 (by kernel_rfl) rfl #[.int .i64 a0_0, .int .i64 1] rfl (by (try simp only [List.map_toArray, List.map_cons, List.map_nil]); first | done | rfl | (simp only [List.length_drop, List.length_take]; rfl)) ?_; (with_reducible refine (priority_level.calls a0_0 1 t103 _ A2.out).mono ?_); rintro e w' ⟨rfl, ⟨nd, rfl⟩⟩; refine ⟨_, rfl, ?_⟩))
    (try simp only [Act.put, List.setIfInBounds_toArray, List.set_cons_zero, List.set_cons_succ])
    go_cut [11] (fun v11 wc => ∃ (kq : Nat) (x11_3 : Bool), v11 = .bool x11_3 ∧ Aside0 (priority_Check.j0 kq x11_3 a0_0 a0_1 a0_2 a0_3 = some r) ∧ Aside0 (kq ≤ k) ∧ Aside0 (wc.heap[gb102]? = some (.cells #[.int .i64 a0_0, .int .i64 a0_1, .int .i64 a0_2, .int .i64 a0_3] 25 (0, 0))) ∧ Aside0 (Below w.heap.size w wc))
    case first =>
      have H := HC4.out
      clear HC4
      by_cases c7 : a0_1 < 1
      · rw [if_pos c7] at H
        have c7b0 : decide (a0_1 < 1) = true := decide_eq_true c7
        clear c7
        (first | rw [c7b0] | (simp only [i64_w, i32_w]; rw [c7b0]) | skip)
        have H' := Aside0.mk H
        clear H
        have hcz8_0 : w5.cell? ⟨gb102, 0, none⟩ = some (.int .i64 a0_0) := (blk_cell BK102.out 0).trans rfl
        have hcz8_1 : w5.cell? ⟨gb102, 1, none⟩ = some (.int .i64 a0_1) := (blk_cell BK102.out 1).trans rfl
        have hcz8_2 : w5.cell? ⟨gb102, 2, none⟩ = some (.int .i64 a0_2) := (blk_cell BK102.out 2).trans rfl
        have hcz8_3 : w5.cell? ⟨gb102, 3, none⟩ = some (.int .i64 a0_3) := (blk_cell BK102.out 3).trans rfl
        have hfz8_0 := blk_frozen BK102.out 0
        have hfz8_1 := blk_frozen BK102.out 1
        have hfz8_2 := blk_frozen BK102.out 2
        have hfz8_3 := blk_frozen BK102.out 3
        go_wp2
        go_meet
        case rel => exact ⟨_, (true), (by first | rfl | (simp; done) | (simp [*]; done)), H', ⟨by first | omega | exact Nat.le_refl _⟩, ⟨by (with_reducible repeat (first | refine blk_drewN ?_ _ | refine blk_drew ?_ | refine blk_alloc ?_ _)); exact BK102.out⟩, ⟨by repeat (first | (with_reducible first | exact HB.out | apply below_alloc | apply pw_below_drewN | apply below_drew1 | refine below_set ?_ GE102.out) | exact HB.out)⟩⟩
      · rw [if_neg c7] at H
        have c7b0 : decide (a0_1 < 1) = false := decide_eq_false c7
        clear c7
        (first | rw [c7b0] | (simp only [i64_w, i32_w]; rw [c7b0]) | skip)
        have H' := Aside0.mk H
        clear H
        have hcz9_0 : w5.cell? ⟨gb102, 0, none⟩ = some (.int .i64 a0_0) := (blk_cell BK102.out 0).trans rfl
        have hcz9_1 : w5.cell? ⟨gb102, 1, none⟩ = some (.int .i64 a0_1) := (blk_cell BK102.out 1).trans rfl
        have hcz9_2 : w5.cell? ⟨gb102, 2, none⟩ = some (.int .i64 a0_2) := (blk_cell BK102.out 2).trans rfl
        have hcz9_3 : w5.cell? ⟨gb102, 3, none⟩ = some (.int .i64 a0_3) := (blk_cell BK102.out 3).trans rfl
        have hfz9_0 := blk_frozen BK102.out 0
        have hfz9_1 := blk_frozen BK102.out 1
        have hfz9_2 := blk_frozen BK102.out 2
        have hfz9_3 := blk_frozen BK102.out 3
        go_wp2
        go_meet
        case rel => exact ⟨_, (decide (a0_1 > 1000000000)), (by first | rfl | (simp; done) | (simp [*]; done)), H', ⟨by first | omega | exact Nat.le_refl _⟩, ⟨by (with_reducible repeat (first | refine blk_drewN ?_ _ | refine blk_drew ?_ | refine blk_alloc ?_ _)); exact BK102.out⟩, ⟨by repeat (first | (with_reducible first | exact HB.out | apply below_alloc | apply pw_below_drewN | apply below_drew1 | refine below_set ?_ GE102.out) | exact HB.out)⟩⟩
    case rest =>
      clear HC4
      try clear c1
      try clear p2
      try clear c3
      try clear c3b0
      try clear c3b1
      try clear c7
      try clear c7b0
      try clear hcz6_0
      try clear hcz6_1
      try clear hcz6_2
      try clear hcz6_3
      try clear hcz8_0
      try clear hcz8_1
      try clear hcz8_2
      try clear hcz8_3
      try clear hcz9_0
      try clear hcz9_1
      try clear hcz9_2
      try clear hcz9_3
      try clear hfz6_0
      try clear hfz6_1
      try clear hfz6_2
      try clear hfz6_3
      try clear hfz8_0
      try clear hfz8_1
      try clear hfz8_2
      try clear hfz8_3
      try clear hfz9_0
      try clear hfz9_1
      try clear hfz9_2
      try clear hfz9_3
      obtain ⟨kq, x11_3, rfl, HA, HJ3, BK102, HB⟩ := hcut
      cases kq with
      | zero => exact absurd HA.out (by simp [priority_Check.j0])
      | succ kj3 =>
        have H := HA.out
        clear HA
        simp only [priority_Check.j0] at H
        by_cases c10 : x11_3 = true
        · subst c10
          have H1 : (some 6) = some r := by rw [if_pos rfl] at H; exact H
          clear H
          have H := H1
          clear H1
          obtain rfl := Option.some.inj H
          go_wp2
          go_ret
          exact ⟨by first | rfl | (simp [errW_none, errW_some] <;> rfl) | (simp [*, errW_none, errW_some] <;> rfl), by repeat (first | (with_reducible first | exact HB.out | apply below_alloc | apply pw_below_drewN | apply below_drew1 | refine below_set ?_ GE102.out) | exact HB.out)⟩
        · replace c10 := Bool.eq_false_iff.mpr c10
          subst c10
          have H1 : ((priority_possible.f a0_2 a0_3).bind fun t104 => (if t104 = true then (some 0) else (some 11))) = some r := by rw [if_neg (show ¬ (false = true) by decide)] at H; exact H
          clear H
          have H := H1
          clear H1
          replace H := Option.bind_eq_some_iff.mp H
          obtain ⟨t104, A110, H⟩ := H
          replace H : (if t104 = true then (some 0) else (some 11)) = some r := H
          have A11 := Aside0.mk A110
          clear A110
          by_cases c12 : t104 = true
          · subst c12
            have H1 : (some 0) = some r := by rw [if_pos rfl] at H; exact H
            clear H
            have H := H1
            clear H1
            obtain rfl := Option.some.inj H
            have hcz13_0 : wc.cell? ⟨gb102, 0, none⟩ = some (.int .i64 a0_0) := (blk_cell BK102.out 0).trans rfl
            have hcz13_1 : wc.cell? ⟨gb102, 1, none⟩ = some (.int .i64 a0_1) := (blk_cell BK102.out 1).trans rfl
            have hcz13_2 : wc.cell? ⟨gb102, 2, none⟩ = some (.int .i64 a0_2) := (blk_cell BK102.out 2).trans rfl
            have hcz13_3 : wc.cell? ⟨gb102, 3, none⟩ = some (.int .i64 a0_3) := (blk_cell BK102.out 3).trans rfl
            have hfz13_0 := blk_frozen BK102.out 0
            have hfz13_1 := blk_frozen BK102.out 1
            have hfz13_2 := blk_frozen BK102.out 2
            have hfz13_3 := blk_frozen BK102.out 3
            go_wp2_with (first | ((with_reducible refine gate_callee (f := 31) rfl ?_); refine goesL_ (some 23) rfl rfl Try.func31 (by kernel_rfl) rfl #[.agg #[.int .i64 a0_2, .int .i64 a0_3]] rfl (by (try simp only [List.map_toArray, List.map_cons, List.map_nil]); first | done | rfl | (simp only [List.length_drop, List.length_take]; rfl)) ?_; (with_reducible refine (priority_possible.calls a0_2 a0_3 true _ A11.out).mono ?_); rintro e w14 ⟨rfl, hb⟩; refine ⟨_, rfl, ?_⟩; have n0_ := Aside0.mk (blk_below (g := gb102) (o := .cells #[.int .i64 a0_0, .int .i64 a0_1, .int .i64 a0_2, .int .i64 a0_3] 25 (0, 0)) (by (with_reducible repeat (first | refine blk_drewN ?_ _ | refine blk_drew ?_ | refine blk_alloc ?_ _)); exact BK102.out) hb); have n1_ := Aside0.mk (below_step (by repeat (first | (with_reducible first | exact HB.out | apply below_alloc | apply pw_below_drewN | apply below_drew1 | refine below_set ?_ GE102.out) | exact HB.out)) hb); clear BK102; clear HB; have BK102 := n0_; have HB := n1_; clear n0_ n1_; (try clear hb); (try clear hb2); (try clear hk); (try clear hi)))
            go_ret
            exact ⟨by first | rfl | (simp [errW_none, errW_some] <;> rfl) | (simp [*, errW_none, errW_some] <;> rfl), by repeat (first | (with_reducible first | exact HB.out | apply below_alloc | apply pw_below_drewN | apply below_drew1 | refine below_set ?_ GE102.out) | exact HB.out)⟩
          · replace c12 := Bool.eq_false_iff.mpr c12
            subst c12
            have H1 : (some 11) = some r := by rw [if_neg (show ¬ (false = true) by decide)] at H; exact H
            clear H
            have H := H1
            clear H1
            obtain rfl := Option.some.inj H
            have hcz15_0 : wc.cell? ⟨gb102, 0, none⟩ = some (.int .i64 a0_0) := (blk_cell BK102.out 0).trans rfl
            have hcz15_1 : wc.cell? ⟨gb102, 1, none⟩ = some (.int .i64 a0_1) := (blk_cell BK102.out 1).trans rfl
            have hcz15_2 : wc.cell? ⟨gb102, 2, none⟩ = some (.int .i64 a0_2) := (blk_cell BK102.out 2).trans rfl
            have hcz15_3 : wc.cell? ⟨gb102, 3, none⟩ = some (.int .i64 a0_3) := (blk_cell BK102.out 3).trans rfl
            have hfz15_0 := blk_frozen BK102.out 0
            have hfz15_1 := blk_frozen BK102.out 1
            have hfz15_2 := blk_frozen BK102.out 2
            have hfz15_3 := blk_frozen BK102.out 3
            go_wp2_with (first | ((with_reducible refine gate_callee (f := 31) rfl ?_); refine goesL_ (some 23) rfl rfl Try.func31 (by kernel_rfl) rfl #[.agg #[.int .i64 a0_2, .int .i64 a0_3]] rfl (by (try simp only [List.map_toArray, List.map_cons, List.map_nil]); first | done | rfl | (simp only [List.length_drop, List.length_take]; rfl)) ?_; (with_reducible refine (priority_possible.calls a0_2 a0_3 false _ A11.out).mono ?_); rintro e w16 ⟨rfl, hb⟩; refine ⟨_, rfl, ?_⟩; have n0_ := Aside0.mk (blk_below (g := gb102) (o := .cells #[.int .i64 a0_0, .int .i64 a0_1, .int .i64 a0_2, .int .i64 a0_3] 25 (0, 0)) (by (with_reducible repeat (first | refine blk_drewN ?_ _ | refine blk_drew ?_ | refine blk_alloc ?_ _)); exact BK102.out) hb); have n1_ := Aside0.mk (below_step (by repeat (first | (with_reducible first | exact HB.out | apply below_alloc | apply pw_below_drewN | apply below_drew1 | refine below_set ?_ GE102.out) | exact HB.out)) hb); clear BK102; clear HB; have BK102 := n0_; have HB := n1_; clear n0_ n1_; (try clear hb); (try clear hb2); (try clear hk); (try clear hi)))
            go_ret
            exact ⟨by first | rfl | (simp [errW_none, errW_some] <;> rfl) | (simp [*, errW_none, errW_some] <;> rfl), by repeat (first | (with_reducible first | exact HB.out | apply below_alloc | apply pw_below_drewN | apply below_drew1 | refine below_set ?_ GE102.out) | exact HB.out)⟩
  · rw [if_neg c3] at H
    have c3b0 : (t103 == 0) = false := beq_eq_false_iff_ne.mpr c3
    have c3b1 : (t103 != 0) = true := bne_iff_ne.mpr c3
    obtain rfl := Option.some.inj H
    go_enter Try.func12, Try.ntmps12
    go_wp2_with (first | ((with_reducible refine gate_dst (N := 1) rfl ?_); refine box_event ?hg (N := 1) ?hd (cs := #[.int .i64 a0_0, .int .i64 a0_1, .int .i64 a0_2, .int .i64 a0_3]) (t := 25) ?hr ?_; (case hd => rfl); (case hg => rfl); (case hr => first | (go_simp; done) | (go_simp; rfl)); intro gb102 hg w17 hbox hb; have n0_ := Aside0.mk (below_step (by repeat (first | (with_reducible first | exact HB.out | apply below_alloc | apply pw_below_drewN | apply below_drew1) | exact HB.out)) hb); have n1_ := Aside0.mk (hbox); have n2_ := Aside0.mk ((by rw [hg]; exact (below_size (by repeat (first | (with_reducible first | exact HB.out | apply below_alloc | apply pw_below_drewN | apply below_drew1) | exact HB.out))) : w.heap.size ≤ gb102)); have n3_ := Aside0.mk ((by rw [hg]; exact (below_size (by repeat (first | (with_reducible first | exact HB.out | apply below_alloc | apply pw_below_drewN | apply below_drew1) | exact HB.out))) : w.heap.size ≤ gb102)); clear HB; have HB := n0_; have BK102 := n1_; have GW102 := n2_; have GE102 := n3_; clear n0_ n1_ n2_ n3_; clear hb hbox hg; have hcz18_0 : w17.cell? ⟨gb102, 0, none⟩ = some (.int .i64 a0_0) := (blk_cell BK102.out 0).trans rfl; have hcz18_1 : w17.cell? ⟨gb102, 1, none⟩ = some (.int .i64 a0_1) := (blk_cell BK102.out 1).trans rfl; have hcz18_2 : w17.cell? ⟨gb102, 2, none⟩ = some (.int .i64 a0_2) := (blk_cell BK102.out 2).trans rfl; have hcz18_3 : w17.cell? ⟨gb102, 3, none⟩ = some (.int .i64 a0_3) := (blk_cell BK102.out 3).trans rfl; have hfz18_0 := blk_frozen BK102.out 0; have hfz18_1 := blk_frozen BK102.out 1; have hfz18_2 := blk_frozen BK102.out 2; have hfz18_3 := blk_frozen BK102.out 3) | ((with_reducible refine gate_callee (f := 30) rfl ?_); refine goesL_ (some 6) rfl rfl Try.func30 (by kernel_rfl) rfl #[.int .i64 a0_0, .int .i64 1] rfl (by (try simp only [List.map_toArray, List.map_cons, List.map_nil]); first | done | rfl | (simp only [List.length_drop, List.length_take]; rfl)) ?_; (with_reducible refine (priority_level.calls a0_0 1 t103 _ A2.out).mono ?_); rintro e w' ⟨rfl, ⟨nd, rfl⟩⟩; refine ⟨_, rfl, ?_⟩))
    go_ret
    exact ⟨by first | rfl | (simp [errW_none, errW_some] <;> rfl) | (simp [*, errW_none, errW_some] <;> rfl), by repeat (first | (with_reducible first | exact HB.out | apply below_alloc | apply pw_below_drewN | apply below_drew1 | refine below_set ?_ GE102.out) | exact HB.out)⟩
end Go.Proofs.Ytejidnmgjccidaa.R
end
section
namespace Go.Proofs.Ytejidnmgjccidaa.R
open Go.RowKit Go.Proofs.YtejidnmgjccidaaW.PrintWords Go.Proofs.YtejidnmgjccidaaW.PrintLast Go.Proofs.YtejidnmgjccidaaW.PrintMore
attribute [local go_sem] max2_int min2_int max_two min_two max_three min_three max_four min_four
set_option linter.unusedVariables false
set_option linter.unusedSimpArgs false
def plenumlaw13_analog.f (a0 : Int) : Option (Int × Int) := some (1, a0)
set_option maxHeartbeats 8000000 in
set_option maxRecDepth 100000 in
theorem plenumlaw13_analog.calls (a0 : Int) (r1 : Int) (r2 : Int) (w : World) (h : plenumlaw13_analog.f a0 = some (r1, r2)) :
    Calls Try.prog 29 #[.int .i64 a0] w fun e w' => e = .returned (.agg #[.int .i64 r1, .int .i64 r2]) ∧ Below w.heap.size w w' := by
  have hu23 := Try.underlying23
  have HB := Aside0.mk (Below.refl w.heap.size w)
  have H : (some (1, a0)) = some (r1, r2) := h
  clear h
  simp only [Option.some.injEq, Prod.mk.injEq] at H
  obtain ⟨rfl, rfl⟩ := H
  go_enter Try.func29, Try.ntmps29
  go_wp2_with (first | ((with_reducible refine gate_dst (N := 2) rfl ?_); refine box_event ?hg (N := 2) ?hd (cs := #[.int .i64 0, .int .i64 0]) (t := 23) ?hr ?_; (case hd => rfl); (case hg => rfl); (case hr => first | (go_simp; done) | (go_simp; rfl)); intro gb122 hg w2 hbox hb; have n0_ := Aside0.mk (below_step (by repeat (first | (with_reducible first | exact HB.out | apply below_alloc | apply pw_below_drewN | apply below_drew1) | exact HB.out)) hb); have n1_ := Aside0.mk (hbox); have n2_ := Aside0.mk ((by rw [hg]; exact (below_size (by repeat (first | (with_reducible first | exact HB.out | apply below_alloc | apply pw_below_drewN | apply below_drew1) | exact HB.out))) : w.heap.size ≤ gb122)); have n3_ := Aside0.mk ((by rw [hg]; exact (below_size (by repeat (first | (with_reducible first | exact HB.out | apply below_alloc | apply pw_below_drewN | apply below_drew1) | exact HB.out))) : w.heap.size ≤ gb122)); clear HB; have HB := n0_; have BK122 := n1_; have GW122 := n2_; have GE122 := n3_; clear n0_ n1_ n2_ n3_; clear hb hbox hg; have hcz3_0 : w2.cell? ⟨gb122, 0, none⟩ = some (.int .i64 0) := (blk_cell BK122.out 0).trans rfl; have hcz3_1 : w2.cell? ⟨gb122, 1, none⟩ = some (.int .i64 0) := (blk_cell BK122.out 1).trans rfl; have hfz3_0 := blk_frozen BK122.out 0; have hfz3_1 := blk_frozen BK122.out 1))
  refine bodyPost_ret (results_cell_row rfl _ _ gb122 23 #[.int .i64 1, .int .i64 a0] (0, 0) _ rfl (by (with_reducible repeat (first | refine blk_drewN ?_ _ | refine blk_drew ?_ | refine blk_alloc ?_ _)); refine blk_put (cs := #[.int .i64 1, .int .i64 0]) ?_ 1 _ rfl; (with_reducible repeat (first | refine blk_drewN ?_ _ | refine blk_drew ?_ | refine blk_alloc ?_ _)); refine blk_put (cs := #[.int .i64 0, .int .i64 0]) ?_ 0 _ rfl; (with_reducible repeat (first | refine blk_drewN ?_ _ | refine blk_drew ?_ | refine blk_alloc ?_ _)); exact BK122.out) Try.underlying23 rfl (by kernel_rfl)) rfl ?_
  exact ⟨by first | rfl | (simp [errW_none, errW_some] <;> rfl) | (simp [*, errW_none, errW_some] <;> rfl), by repeat (first | (with_reducible first | exact HB.out | apply below_alloc | apply pw_below_drewN | apply below_drew1 | refine below_set ?_ GE122.out) | exact HB.out)⟩
end Go.Proofs.Ytejidnmgjccidaa.R
end
section
namespace Go.Proofs.Ytejidnmgjccidaa.R
open Go.RowKit Go.Proofs.YtejidnmgjccidaaW.PrintWords Go.Proofs.YtejidnmgjccidaaW.PrintLast Go.Proofs.YtejidnmgjccidaaW.PrintMore
attribute [local go_sem] max2_int min2_int max_two min_two max_three min_three max_four min_four
set_option linter.unusedVariables false
set_option linter.unusedSimpArgs false
def cmp_Or_int.l0 : Nat → Int → List Int → Int → Int → Option (Int)
  | 0, _, _, _, _ => none
  | k + 1, x3, x6, x7, x8 => if x8 < x7 then (if 0 ≤ x8 then (if x8 < (x6.length : Int) then (if (rd x6 x8) = x3 then (cmp_Or_int.l0 k x3 x6 x7 (wrap64 (x8 + 1))) else (some (rd x6 x8))) else (none)) else (none)) else (some x3)
def cmp_Or_int.f (k : Nat) (l0 : List Int) : Option (Int) := cmp_Or_int.l0 k 0 l0 (l0.length : Int) 0
set_option maxHeartbeats 8000000 in
set_option maxRecDepth 100000 in
theorem cmp_Or_int.calls (k : Nat) (A0 : Option Addr) (c0 : Nat) (l0 : List Int) (r : Int) (w : World) (hr0 : Kd.C (Kd.int .i64) w A0 l0.length l0) (hc0 : l0.length ≤ c0) (h : cmp_Or_int.f k l0 = some r) :
    Calls Try.prog 43 #[.slice A0 l0.length c0] w fun e w' => e = .returned (.int .i64 r) ∧ Drawn0 w w' := by
  have HR0 := Aside0.mk hr0
  have HC0 := Aside0.mk hc0
  clear hr0 hc0
  have H : (cmp_Or_int.l0 k 0 l0 (l0.length : Int) 0) = some r := h
  clear h
  have H' := Aside0.mk H
  clear H
  go_enter Try.func43, Try.ntmps43
  go_wp2
  go_loopg [8] k (fun kq v8 w' => ∃ (x8_1 : Int), v8 = .int .i64 x8_1 ∧ Aside0 (cmp_Or_int.l0 kq 0 l0 (l0.length : Int) x8_1 = some r) ∧ Aside0 (kq ≤ k) ∧ Drawn0 w w')
  case atStart => exact ⟨(0), (by first | rfl | (simp; done) | (simp [*]; done)), H', ⟨Nat.le_refl _⟩, by repeat (first | exact Drawn0.refl _ | apply Drawn0.step)⟩
  case round =>
    clear H'
    obtain ⟨x8_1, rfl, HA, HK1, ⟨m1, rfl⟩⟩ := hrel
    cases gk with
    | zero => exact absurd HA.out (by simp [cmp_Or_int.l0])
    | succ k1 =>
      have H := HA.out
      clear HA
      simp only [cmp_Or_int.l0] at H
      by_cases c2 : x8_1 < (l0.length : Int)
      · rw [if_pos c2] at H
        have c2b0 : decide (x8_1 < (l0.length : Int)) = true := decide_eq_true c2
        clear c2
        by_cases c3 : 0 ≤ x8_1
        · rw [if_pos c3] at H
          have c3b0 : decide (0 ≤ x8_1) = true := decide_eq_true c3
          clear c3
          by_cases c4 : x8_1 < (l0.length : Int)
          · rw [if_pos c4] at H
            have c4b0 : decide (x8_1 < (l0.length : Int)) = true := decide_eq_true c4
            clear c4
            by_cases c5 : (rd l0 x8_1) = 0
            · rw [if_pos c5] at H
              have c5b0 : ((rd l0 x8_1) == 0) = true := beq_iff_eq.mpr c5
              have c5b1 : ((rd l0 x8_1) != 0) = false := bne_eq_false_iff_eq.mpr c5
              clear c5
              have H' := Aside0.mk H
              clear H
              have p105 : 0 ≤ (x8_1 : Int) := of_decide_eq_true (by first | (with_reducible assumption) | assumption)
              have q105 : x8_1 < (l0.length : Int) := of_decide_eq_true (by first | (with_reducible assumption) | assumption)
              obtain ⟨ad105, e105, hx105_0⟩ := Kd.at_int HR0.out x8_1 p105 q105
              cases e105
              replace p105 := eq_true p105
              replace q105 := eq_true q105
              go_wp2
              go_roundg k1
              case measure => have := HK1.out; omega
              case rel => exact ⟨(wrap64 (x8_1 + 1)), (by first | rfl | (simp; done) | (simp [*]; done)), H', ⟨by have := HK1.out; omega⟩, by repeat (first | exact Drawn0.refl _ | apply Drawn0.step)⟩
            · rw [if_neg c5] at H
              have c5b0 : ((rd l0 x8_1) == 0) = false := beq_eq_false_iff_ne.mpr c5
              have c5b1 : ((rd l0 x8_1) != 0) = true := bne_iff_ne.mpr c5
              obtain rfl := Option.some.inj H
              have p105 : 0 ≤ (x8_1 : Int) := of_decide_eq_true (by first | (with_reducible assumption) | assumption)
              have q105 : x8_1 < (l0.length : Int) := of_decide_eq_true (by first | (with_reducible assumption) | assumption)
              obtain ⟨ad105, e105, hx105_0⟩ := Kd.at_int HR0.out x8_1 p105 q105
              cases e105
              replace p105 := eq_true p105
              replace q105 := eq_true q105
              go_wp2
              go_ret
              exact ⟨by first | rfl | (simp; done) | (simp [*]; done), by repeat (first | exact Drawn0.refl _ | apply Drawn0.step)⟩
          · rw [if_neg c4] at H
            exact absurd H (by simp)
        · rw [if_neg c3] at H
          exact absurd H (by simp)
      · rw [if_neg c2] at H
        have c2b0 : decide (x8_1 < (l0.length : Int)) = false := decide_eq_false c2
        clear c2
        obtain rfl := Option.some.inj H
        go_wp2
        go_ret
        exact ⟨by first | rfl | (simp; done) | (simp [*]; done), by repeat (first | exact Drawn0.refl _ | apply Drawn0.step)⟩
end Go.Proofs.Ytejidnmgjccidaa.R
end
section
namespace Go.Proofs.Ytejidnmgjccidaa.R
open Go.RowKit Go.Proofs.YtejidnmgjccidaaW.PrintWords Go.Proofs.YtejidnmgjccidaaW.PrintLast Go.Proofs.YtejidnmgjccidaaW.PrintMore
attribute [local go_sem] max2_int min2_int max_two min_two max_three min_three max_four min_four
set_option linter.unusedVariables false
set_option linter.unusedSimpArgs false
def cmp_isNaN_int.f (a0 : Int) : Option (Bool) := some (a0 != a0)
set_option maxHeartbeats 8000000 in
set_option maxRecDepth 100000 in
theorem cmp_isNaN_int.calls (a0 : Int) (r : Bool) (w : World) (h : cmp_isNaN_int.f a0 = some r) :
    Calls Try.prog 46 #[.int .i64 a0] w fun e w' => e = .returned (.bool r) ∧ Drawn0 w w' := by
  have H : (some (a0 != a0)) = some r := h
  clear h
  obtain rfl := Option.some.inj H
  go_enter Try.func46, Try.ntmps46
  go_wp2
  go_ret
  exact ⟨by first | rfl | (simp; done) | (simp [*]; done), by repeat (first | exact Drawn0.refl _ | apply Drawn0.step)⟩
end Go.Proofs.Ytejidnmgjccidaa.R
end
section
namespace Go.Proofs.Ytejidnmgjccidaa.R
open Go.RowKit Go.Proofs.YtejidnmgjccidaaW.PrintWords Go.Proofs.YtejidnmgjccidaaW.PrintLast Go.Proofs.YtejidnmgjccidaaW.PrintMore
attribute [local go_sem] max2_int min2_int max_two min_two max_three min_three max_four min_four
set_option linter.unusedVariables false
set_option linter.unusedSimpArgs false
def cmp_Compare_int.f (a0 : Int) (a1 : Int) : Option (Int) := (cmp_isNaN_int.f a0).bind fun t106 => ((cmp_isNaN_int.f a1).bind fun t107 => (if t106 = true then (if t107 = true then (some 0) else (some (-1))) else (if t107 = true then (some 1) else (if a0 < a1 then (some (-1)) else (if a0 > a1 then (some 1) else (some 0))))))
set_option maxHeartbeats 8000000 in
set_option maxRecDepth 100000 in
theorem cmp_Compare_int.calls (a0 : Int) (a1 : Int) (r : Int) (w : World) (h : cmp_Compare_int.f a0 a1 = some r) :
    Calls Try.prog 44 #[.int .i64 a0, .int .i64 a1] w fun e w' => e = .returned (.int .i64 r) ∧ Drawn0 w w' := by
  have H : ((cmp_isNaN_int.f a0).bind fun t106 => ((cmp_isNaN_int.f a1).bind fun t107 => (if t106 = true then (if t107 = true then (some 0) else (some (-1))) else (if t107 = true then (some 1) else (if a0 < a1 then (some (-1)) else (if a0 > a1 then (some 1) else (some 0))))))) = some r := h
  clear h
  replace H := Option.bind_eq_some_iff.mp H
  obtain ⟨t106, A30, H⟩ := H
  replace H : ((cmp_isNaN_int.f a1).bind fun t107 => (if t106 = true then (if t107 = true then (some 0) else (some (-1))) else (if t107 = true then (some 1) else (if a0 < a1 then (some (-1)) else (if a0 > a1 then (some 1) else (some 0)))))) = some r := H
  have A3 := Aside0.mk A30
  clear A30
  replace H := Option.bind_eq_some_iff.mp H
  obtain ⟨t107, A40, H⟩ := H
  replace H : (if t106 = true then (if t107 = true then (some 0) else (some (-1))) else (if t107 = true then (some 1) else (if a0 < a1 then (some (-1)) else (if a0 > a1 then (some 1) else (some 0))))) = some r := H
  have A4 := Aside0.mk A40
  clear A40
  by_cases c5 : t106 = true
  · subst c5
    have H1 : (if t107 = true then (some 0) else (some (-1))) = some r := by rw [if_pos rfl] at H; exact H
    clear H
    have H := H1
    clear H1
    by_cases c6 : t107 = true
    · subst c6
      have H1 : (some 0) = some r := by rw [if_pos rfl] at H; exact H
      clear H
      have H := H1
      clear H1
      obtain rfl := Option.some.inj H
      go_enter Try.func44, Try.ntmps44
      go_wp2_with (first | ((with_reducible refine gate_callee (f := 46) rfl ?_); refine goesL_ (some 8) rfl rfl Try.func46 (by kernel_rfl) rfl #[.int .i64 a0] rfl (by (try simp only [List.map_toArray, List.map_cons, List.map_nil]); first | done | rfl | (simp only [List.length_drop, List.length_take]; rfl)) ?_; (with_reducible refine (cmp_isNaN_int.calls a0 true _ A3.out).mono ?_); rintro e w' ⟨rfl, ⟨nd, rfl⟩⟩; refine ⟨_, rfl, ?_⟩) | ((with_reducible refine gate_callee (f := 46) rfl ?_); refine goesL_ (some 10) rfl rfl Try.func46 (by kernel_rfl) rfl #[.int .i64 a1] rfl (by (try simp only [List.map_toArray, List.map_cons, List.map_nil]); first | done | rfl | (simp only [List.length_drop, List.length_take]; rfl)) ?_; (with_reducible refine (cmp_isNaN_int.calls a1 true _ A4.out).mono ?_); rintro e w' ⟨rfl, ⟨nd, rfl⟩⟩; refine ⟨_, rfl, ?_⟩))
      go_ret
      exact ⟨by first | rfl | (simp; done) | (simp [*]; done), by repeat (first | exact Drawn0.refl _ | apply Drawn0.step)⟩
    · replace c6 := Bool.eq_false_iff.mpr c6
      subst c6
      have H1 : (some (-1)) = some r := by rw [if_neg (show ¬ (false = true) by decide)] at H; exact H
      clear H
      have H := H1
      clear H1
      obtain rfl := Option.some.inj H
      go_enter Try.func44, Try.ntmps44
      go_wp2_with (first | ((with_reducible refine gate_callee (f := 46) rfl ?_); refine goesL_ (some 8) rfl rfl Try.func46 (by kernel_rfl) rfl #[.int .i64 a0] rfl (by (try simp only [List.map_toArray, List.map_cons, List.map_nil]); first | done | rfl | (simp only [List.length_drop, List.length_take]; rfl)) ?_; (with_reducible refine (cmp_isNaN_int.calls a0 true _ A3.out).mono ?_); rintro e w' ⟨rfl, ⟨nd, rfl⟩⟩; refine ⟨_, rfl, ?_⟩) | ((with_reducible refine gate_callee (f := 46) rfl ?_); refine goesL_ (some 10) rfl rfl Try.func46 (by kernel_rfl) rfl #[.int .i64 a1] rfl (by (try simp only [List.map_toArray, List.map_cons, List.map_nil]); first | done | rfl | (simp only [List.length_drop, List.length_take]; rfl)) ?_; (with_reducible refine (cmp_isNaN_int.calls a1 false _ A4.out).mono ?_); rintro e w' ⟨rfl, ⟨nd, rfl⟩⟩; refine ⟨_, rfl, ?_⟩))
      go_ret
      exact ⟨by first | rfl | (simp; done) | (simp [*]; done), by repeat (first | exact Drawn0.refl _ | apply Drawn0.step)⟩
  · replace c5 := Bool.eq_false_iff.mpr c5
    subst c5
    have H1 : (if t107 = true then (some 1) else (if a0 < a1 then (some (-1)) else (if a0 > a1 then (some 1) else (some 0)))) = some r := by rw [if_neg (show ¬ (false = true) by decide)] at H; exact H
    clear H
    have H := H1
    clear H1
    by_cases c7 : t107 = true
    · subst c7
      have H1 : (some 1) = some r := by rw [if_pos rfl] at H; exact H
      clear H
      have H := H1
      clear H1
      obtain rfl := Option.some.inj H
      go_enter Try.func44, Try.ntmps44
      go_wp2_with (first | ((with_reducible refine gate_callee (f := 46) rfl ?_); refine goesL_ (some 8) rfl rfl Try.func46 (by kernel_rfl) rfl #[.int .i64 a0] rfl (by (try simp only [List.map_toArray, List.map_cons, List.map_nil]); first | done | rfl | (simp only [List.length_drop, List.length_take]; rfl)) ?_; (with_reducible refine (cmp_isNaN_int.calls a0 false _ A3.out).mono ?_); rintro e w' ⟨rfl, ⟨nd, rfl⟩⟩; refine ⟨_, rfl, ?_⟩) | ((with_reducible refine gate_callee (f := 46) rfl ?_); refine goesL_ (some 10) rfl rfl Try.func46 (by kernel_rfl) rfl #[.int .i64 a1] rfl (by (try simp only [List.map_toArray, List.map_cons, List.map_nil]); first | done | rfl | (simp only [List.length_drop, List.length_take]; rfl)) ?_; (with_reducible refine (cmp_isNaN_int.calls a1 true _ A4.out).mono ?_); rintro e w' ⟨rfl, ⟨nd, rfl⟩⟩; refine ⟨_, rfl, ?_⟩))
      go_ret
      exact ⟨by first | rfl | (simp; done) | (simp [*]; done), by repeat (first | exact Drawn0.refl _ | apply Drawn0.step)⟩
    · replace c7 := Bool.eq_false_iff.mpr c7
      subst c7
      have H1 : (if a0 < a1 then (some (-1)) else (if a0 > a1 then (some 1) else (some 0))) = some r := by rw [if_neg (show ¬ (false = true) by decide)] at H; exact H
      clear H
      have H := H1
      clear H1
      by_cases c8 : a0 < a1
      · rw [if_pos c8] at H
        have c8b0 : decide (a0 < a1) = true := decide_eq_true c8
        clear c8
        obtain rfl := Option.some.inj H
        go_enter Try.func44, Try.ntmps44
        go_wp2_with (first | ((with_reducible refine gate_callee (f := 46) rfl ?_); refine goesL_ (some 8) rfl rfl Try.func46 (by kernel_rfl) rfl #[.int .i64 a0] rfl (by (try simp only [List.map_toArray, List.map_cons, List.map_nil]); first | done | rfl | (simp only [List.length_drop, List.length_take]; rfl)) ?_; (with_reducible refine (cmp_isNaN_int.calls a0 false _ A3.out).mono ?_); rintro e w' ⟨rfl, ⟨nd, rfl⟩⟩; refine ⟨_, rfl, ?_⟩) | ((with_reducible refine gate_callee (f := 46) rfl ?_); refine goesL_ (some 10) rfl rfl Try.func46 (by kernel_rfl) rfl #[.int .i64 a1] rfl (by (try simp only [List.map_toArray, List.map_cons, List.map_nil]); first | done | rfl | (simp only [List.length_drop, List.length_take]; rfl)) ?_; (with_reducible refine (cmp_isNaN_int.calls a1 false _ A4.out).mono ?_); rintro e w' ⟨rfl, ⟨nd, rfl⟩⟩; refine ⟨_, rfl, ?_⟩))
        go_ret
        exact ⟨by first | rfl | (simp; done) | (simp [*]; done), by repeat (first | exact Drawn0.refl _ | apply Drawn0.step)⟩
      · rw [if_neg c8] at H
        have c8b0 : decide (a0 < a1) = false := decide_eq_false c8
        clear c8
        by_cases c9 : a0 > a1
        · rw [if_pos c9] at H
          have c9b0 : decide (a1 < a0) = true := decide_eq_true c9
          clear c9
          obtain rfl := Option.some.inj H
          go_enter Try.func44, Try.ntmps44
          go_wp2_with (first | ((with_reducible refine gate_callee (f := 46) rfl ?_); refine goesL_ (some 8) rfl rfl Try.func46 (by kernel_rfl) rfl #[.int .i64 a0] rfl (by (try simp only [List.map_toArray, List.map_cons, List.map_nil]); first | done | rfl | (simp only [List.length_drop, List.length_take]; rfl)) ?_; (with_reducible refine (cmp_isNaN_int.calls a0 false _ A3.out).mono ?_); rintro e w' ⟨rfl, ⟨nd, rfl⟩⟩; refine ⟨_, rfl, ?_⟩) | ((with_reducible refine gate_callee (f := 46) rfl ?_); refine goesL_ (some 10) rfl rfl Try.func46 (by kernel_rfl) rfl #[.int .i64 a1] rfl (by (try simp only [List.map_toArray, List.map_cons, List.map_nil]); first | done | rfl | (simp only [List.length_drop, List.length_take]; rfl)) ?_; (with_reducible refine (cmp_isNaN_int.calls a1 false _ A4.out).mono ?_); rintro e w' ⟨rfl, ⟨nd, rfl⟩⟩; refine ⟨_, rfl, ?_⟩))
          go_ret
          exact ⟨by first | rfl | (simp; done) | (simp [*]; done), by repeat (first | exact Drawn0.refl _ | apply Drawn0.step)⟩
        · rw [if_neg c9] at H
          have c9b0 : decide (a1 < a0) = false := decide_eq_false c9
          clear c9
          obtain rfl := Option.some.inj H
          go_enter Try.func44, Try.ntmps44
          go_wp2_with (first | ((with_reducible refine gate_callee (f := 46) rfl ?_); refine goesL_ (some 8) rfl rfl Try.func46 (by kernel_rfl) rfl #[.int .i64 a0] rfl (by (try simp only [List.map_toArray, List.map_cons, List.map_nil]); first | done | rfl | (simp only [List.length_drop, List.length_take]; rfl)) ?_; (with_reducible refine (cmp_isNaN_int.calls a0 false _ A3.out).mono ?_); rintro e w' ⟨rfl, ⟨nd, rfl⟩⟩; refine ⟨_, rfl, ?_⟩) | ((with_reducible refine gate_callee (f := 46) rfl ?_); refine goesL_ (some 10) rfl rfl Try.func46 (by kernel_rfl) rfl #[.int .i64 a1] rfl (by (try simp only [List.map_toArray, List.map_cons, List.map_nil]); first | done | rfl | (simp only [List.length_drop, List.length_take]; rfl)) ?_; (with_reducible refine (cmp_isNaN_int.calls a1 false _ A4.out).mono ?_); rintro e w' ⟨rfl, ⟨nd, rfl⟩⟩; refine ⟨_, rfl, ?_⟩))
          go_ret
          exact ⟨by first | rfl | (simp; done) | (simp [*]; done), by repeat (first | exact Drawn0.refl _ | apply Drawn0.step)⟩
end Go.Proofs.Ytejidnmgjccidaa.R
end
section
namespace Go.Proofs.Ytejidnmgjccidaa.R
open Go.RowKit Go.Proofs.YtejidnmgjccidaaW.PrintWords Go.Proofs.YtejidnmgjccidaaW.PrintLast Go.Proofs.YtejidnmgjccidaaW.PrintMore
attribute [local go_sem] max2_int min2_int max_two min_two max_three min_three max_four min_four
set_option linter.unusedVariables false
set_option linter.unusedSimpArgs false
def cmp_isNaN_int64.f (a0 : Int) : Option (Bool) := some (a0 != a0)
set_option maxHeartbeats 8000000 in
set_option maxRecDepth 100000 in
theorem cmp_isNaN_int64.calls (a0 : Int) (r : Bool) (w : World) (h : cmp_isNaN_int64.f a0 = some r) :
    Calls Try.prog 47 #[.int .i64 a0] w fun e w' => e = .returned (.bool r) ∧ Drawn0 w w' := by
  have H : (some (a0 != a0)) = some r := h
  clear h
  obtain rfl := Option.some.inj H
  go_enter Try.func47, Try.ntmps47
  go_wp2
  go_ret
  exact ⟨by first | rfl | (simp; done) | (simp [*]; done), by repeat (first | exact Drawn0.refl _ | apply Drawn0.step)⟩
end Go.Proofs.Ytejidnmgjccidaa.R
end
section
namespace Go.Proofs.Ytejidnmgjccidaa.R
open Go.RowKit Go.Proofs.YtejidnmgjccidaaW.PrintWords Go.Proofs.YtejidnmgjccidaaW.PrintLast Go.Proofs.YtejidnmgjccidaaW.PrintMore
attribute [local go_sem] max2_int min2_int max_two min_two max_three min_three max_four min_four
set_option linter.unusedVariables false
set_option linter.unusedSimpArgs false
def cmp_Compare_int64.f (a0 : Int) (a1 : Int) : Option (Int) := (cmp_isNaN_int64.f a0).bind fun t108 => ((cmp_isNaN_int64.f a1).bind fun t109 => (if t108 = true then (if t109 = true then (some 0) else (some (-1))) else (if t109 = true then (some 1) else (if a0 < a1 then (some (-1)) else (if a0 > a1 then (some 1) else (some 0))))))
set_option maxHeartbeats 8000000 in
set_option maxRecDepth 100000 in
theorem cmp_Compare_int64.calls (a0 : Int) (a1 : Int) (r : Int) (w : World) (h : cmp_Compare_int64.f a0 a1 = some r) :
    Calls Try.prog 45 #[.int .i64 a0, .int .i64 a1] w fun e w' => e = .returned (.int .i64 r) ∧ Drawn0 w w' := by
  have H : ((cmp_isNaN_int64.f a0).bind fun t108 => ((cmp_isNaN_int64.f a1).bind fun t109 => (if t108 = true then (if t109 = true then (some 0) else (some (-1))) else (if t109 = true then (some 1) else (if a0 < a1 then (some (-1)) else (if a0 > a1 then (some 1) else (some 0))))))) = some r := h
  clear h
  replace H := Option.bind_eq_some_iff.mp H
  obtain ⟨t108, A30, H⟩ := H
  replace H : ((cmp_isNaN_int64.f a1).bind fun t109 => (if t108 = true then (if t109 = true then (some 0) else (some (-1))) else (if t109 = true then (some 1) else (if a0 < a1 then (some (-1)) else (if a0 > a1 then (some 1) else (some 0)))))) = some r := H
  have A3 := Aside0.mk A30
  clear A30
  replace H := Option.bind_eq_some_iff.mp H
  obtain ⟨t109, A40, H⟩ := H
  replace H : (if t108 = true then (if t109 = true then (some 0) else (some (-1))) else (if t109 = true then (some 1) else (if a0 < a1 then (some (-1)) else (if a0 > a1 then (some 1) else (some 0))))) = some r := H
  have A4 := Aside0.mk A40
  clear A40
  by_cases c5 : t108 = true
  · subst c5
    have H1 : (if t109 = true then (some 0) else (some (-1))) = some r := by rw [if_pos rfl] at H; exact H
    clear H
    have H := H1
    clear H1
    by_cases c6 : t109 = true
    · subst c6
      have H1 : (some 0) = some r := by rw [if_pos rfl] at H; exact H
      clear H
      have H := H1
      clear H1
      obtain rfl := Option.some.inj H
      go_enter Try.func45, Try.ntmps45
      go_wp2_with (first | ((with_reducible refine gate_callee (f := 47) rfl ?_); refine goesL_ (some 8) rfl rfl Try.func47 (by kernel_rfl) rfl #[.int .i64 a0] rfl (by (try simp only [List.map_toArray, List.map_cons, List.map_nil]); first | done | rfl | (simp only [List.length_drop, List.length_take]; rfl)) ?_; (with_reducible refine (cmp_isNaN_int64.calls a0 true _ A3.out).mono ?_); rintro e w' ⟨rfl, ⟨nd, rfl⟩⟩; refine ⟨_, rfl, ?_⟩) | ((with_reducible refine gate_callee (f := 47) rfl ?_); refine goesL_ (some 10) rfl rfl Try.func47 (by kernel_rfl) rfl #[.int .i64 a1] rfl (by (try simp only [List.map_toArray, List.map_cons, List.map_nil]); first | done | rfl | (simp only [List.length_drop, List.length_take]; rfl)) ?_; (with_reducible refine (cmp_isNaN_int64.calls a1 true _ A4.out).mono ?_); rintro e w' ⟨rfl, ⟨nd, rfl⟩⟩; refine ⟨_, rfl, ?_⟩))
      go_ret
      exact ⟨by first | rfl | (simp; done) | (simp [*]; done), by repeat (first | exact Drawn0.refl _ | apply Drawn0.step)⟩
    · replace c6 := Bool.eq_false_iff.mpr c6
      subst c6
      have H1 : (some (-1)) = some r := by rw [if_neg (show ¬ (false = true) by decide)] at H; exact H
      clear H
      have H := H1
      clear H1
      obtain rfl := Option.some.inj H
      go_enter Try.func45, Try.ntmps45
      go_wp2_with (first | ((with_reducible refine gate_callee (f := 47) rfl ?_); refine goesL_ (some 8) rfl rfl Try.func47 (by kernel_rfl) rfl #[.int .i64 a0] rfl (by (try simp only [List.map_toArray, List.map_cons, List.map_nil]); first | done | rfl | (simp only [List.length_drop, List.length_take]; rfl)) ?_; (with_reducible refine (cmp_isNaN_int64.calls a0 true _ A3.out).mono ?_); rintro e w' ⟨rfl, ⟨nd, rfl⟩⟩; refine ⟨_, rfl, ?_⟩) | ((with_reducible refine gate_callee (f := 47) rfl ?_); refine goesL_ (some 10) rfl rfl Try.func47 (by kernel_rfl) rfl #[.int .i64 a1] rfl (by (try simp only [List.map_toArray, List.map_cons, List.map_nil]); first | done | rfl | (simp only [List.length_drop, List.length_take]; rfl)) ?_; (with_reducible refine (cmp_isNaN_int64.calls a1 false _ A4.out).mono ?_); rintro e w' ⟨rfl, ⟨nd, rfl⟩⟩; refine ⟨_, rfl, ?_⟩))
      go_ret
      exact ⟨by first | rfl | (simp; done) | (simp [*]; done), by repeat (first | exact Drawn0.refl _ | apply Drawn0.step)⟩
  · replace c5 := Bool.eq_false_iff.mpr c5
    subst c5
    have H1 : (if t109 = true then (some 1) else (if a0 < a1 then (some (-1)) else (if a0 > a1 then (some 1) else (some 0)))) = some r := by rw [if_neg (show ¬ (false = true) by decide)] at H; exact H
    clear H
    have H := H1
    clear H1
    by_cases c7 : t109 = true
    · subst c7
      have H1 : (some 1) = some r := by rw [if_pos rfl] at H; exact H
      clear H
      have H := H1
      clear H1
      obtain rfl := Option.some.inj H
      go_enter Try.func45, Try.ntmps45
      go_wp2_with (first | ((with_reducible refine gate_callee (f := 47) rfl ?_); refine goesL_ (some 8) rfl rfl Try.func47 (by kernel_rfl) rfl #[.int .i64 a0] rfl (by (try simp only [List.map_toArray, List.map_cons, List.map_nil]); first | done | rfl | (simp only [List.length_drop, List.length_take]; rfl)) ?_; (with_reducible refine (cmp_isNaN_int64.calls a0 false _ A3.out).mono ?_); rintro e w' ⟨rfl, ⟨nd, rfl⟩⟩; refine ⟨_, rfl, ?_⟩) | ((with_reducible refine gate_callee (f := 47) rfl ?_); refine goesL_ (some 10) rfl rfl Try.func47 (by kernel_rfl) rfl #[.int .i64 a1] rfl (by (try simp only [List.map_toArray, List.map_cons, List.map_nil]); first | done | rfl | (simp only [List.length_drop, List.length_take]; rfl)) ?_; (with_reducible refine (cmp_isNaN_int64.calls a1 true _ A4.out).mono ?_); rintro e w' ⟨rfl, ⟨nd, rfl⟩⟩; refine ⟨_, rfl, ?_⟩))
      go_ret
      exact ⟨by first | rfl | (simp; done) | (simp [*]; done), by repeat (first | exact Drawn0.refl _ | apply Drawn0.step)⟩
    · replace c7 := Bool.eq_false_iff.mpr c7
      subst c7
      have H1 : (if a0 < a1 then (some (-1)) else (if a0 > a1 then (some 1) else (some 0))) = some r := by rw [if_neg (show ¬ (false = true) by decide)] at H; exact H
      clear H
      have H := H1
      clear H1
      by_cases c8 : a0 < a1
      · rw [if_pos c8] at H
        have c8b0 : decide (a0 < a1) = true := decide_eq_true c8
        clear c8
        obtain rfl := Option.some.inj H
        go_enter Try.func45, Try.ntmps45
        go_wp2_with (first | ((with_reducible refine gate_callee (f := 47) rfl ?_); refine goesL_ (some 8) rfl rfl Try.func47 (by kernel_rfl) rfl #[.int .i64 a0] rfl (by (try simp only [List.map_toArray, List.map_cons, List.map_nil]); first | done | rfl | (simp only [List.length_drop, List.length_take]; rfl)) ?_; (with_reducible refine (cmp_isNaN_int64.calls a0 false _ A3.out).mono ?_); rintro e w' ⟨rfl, ⟨nd, rfl⟩⟩; refine ⟨_, rfl, ?_⟩) | ((with_reducible refine gate_callee (f := 47) rfl ?_); refine goesL_ (some 10) rfl rfl Try.func47 (by kernel_rfl) rfl #[.int .i64 a1] rfl (by (try simp only [List.map_toArray, List.map_cons, List.map_nil]); first | done | rfl | (simp only [List.length_drop, List.length_take]; rfl)) ?_; (with_reducible refine (cmp_isNaN_int64.calls a1 false _ A4.out).mono ?_); rintro e w' ⟨rfl, ⟨nd, rfl⟩⟩; refine ⟨_, rfl, ?_⟩))
        go_ret
        exact ⟨by first | rfl | (simp; done) | (simp [*]; done), by repeat (first | exact Drawn0.refl _ | apply Drawn0.step)⟩
      · rw [if_neg c8] at H
        have c8b0 : decide (a0 < a1) = false := decide_eq_false c8
        clear c8
        by_cases c9 : a0 > a1
        · rw [if_pos c9] at H
          have c9b0 : decide (a1 < a0) = true := decide_eq_true c9
          clear c9
          obtain rfl := Option.some.inj H
          go_enter Try.func45, Try.ntmps45
          go_wp2_with (first | ((with_reducible refine gate_callee (f := 47) rfl ?_); refine goesL_ (some 8) rfl rfl Try.func47 (by kernel_rfl) rfl #[.int .i64 a0] rfl (by (try simp only [List.map_toArray, List.map_cons, List.map_nil]); first | done | rfl | (simp only [List.length_drop, List.length_take]; rfl)) ?_; (with_reducible refine (cmp_isNaN_int64.calls a0 false _ A3.out).mono ?_); rintro e w' ⟨rfl, ⟨nd, rfl⟩⟩; refine ⟨_, rfl, ?_⟩) | ((with_reducible refine gate_callee (f := 47) rfl ?_); refine goesL_ (some 10) rfl rfl Try.func47 (by kernel_rfl) rfl #[.int .i64 a1] rfl (by (try simp only [List.map_toArray, List.map_cons, List.map_nil]); first | done | rfl | (simp only [List.length_drop, List.length_take]; rfl)) ?_; (with_reducible refine (cmp_isNaN_int64.calls a1 false _ A4.out).mono ?_); rintro e w' ⟨rfl, ⟨nd, rfl⟩⟩; refine ⟨_, rfl, ?_⟩))
          go_ret
          exact ⟨by first | rfl | (simp; done) | (simp [*]; done), by repeat (first | exact Drawn0.refl _ | apply Drawn0.step)⟩
        · rw [if_neg c9] at H
          have c9b0 : decide (a1 < a0) = false := decide_eq_false c9
          clear c9
          obtain rfl := Option.some.inj H
          go_enter Try.func45, Try.ntmps45
          go_wp2_with (first | ((with_reducible refine gate_callee (f := 47) rfl ?_); refine goesL_ (some 8) rfl rfl Try.func47 (by kernel_rfl) rfl #[.int .i64 a0] rfl (by (try simp only [List.map_toArray, List.map_cons, List.map_nil]); first | done | rfl | (simp only [List.length_drop, List.length_take]; rfl)) ?_; (with_reducible refine (cmp_isNaN_int64.calls a0 false _ A3.out).mono ?_); rintro e w' ⟨rfl, ⟨nd, rfl⟩⟩; refine ⟨_, rfl, ?_⟩) | ((with_reducible refine gate_callee (f := 47) rfl ?_); refine goesL_ (some 10) rfl rfl Try.func47 (by kernel_rfl) rfl #[.int .i64 a1] rfl (by (try simp only [List.map_toArray, List.map_cons, List.map_nil]); first | done | rfl | (simp only [List.length_drop, List.length_take]; rfl)) ?_; (with_reducible refine (cmp_isNaN_int64.calls a1 false _ A4.out).mono ?_); rintro e w' ⟨rfl, ⟨nd, rfl⟩⟩; refine ⟨_, rfl, ?_⟩))
          go_ret
          exact ⟨by first | rfl | (simp; done) | (simp [*]; done), by repeat (first | exact Drawn0.refl _ | apply Drawn0.step)⟩
end Go.Proofs.Ytejidnmgjccidaa.R
end
section
namespace Go.Proofs.Ytejidnmgjccidaa.R
open Go.RowKit Go.Proofs.YtejidnmgjccidaaW.PrintWords Go.Proofs.YtejidnmgjccidaaW.PrintLast Go.Proofs.YtejidnmgjccidaaW.PrintMore
attribute [local go_sem] max2_int min2_int max_two min_two max_three min_three max_four min_four
set_option linter.unusedVariables false
set_option linter.unusedSimpArgs false
def priority_compare.f (k : Nat) (a0_0 : Int) (a0_1 : Int) (a0_2 : Int) (a0_3 : Int) (a1_0 : Int) (a1_1 : Int) (a1_2 : Int) (a1_3 : Int) : Option (Int) := (cmp_Compare_int.f a0_1 a1_1).bind fun t112 => ((cmp_Compare_int.f a0_2 a1_2).bind fun t113 => ((cmp_Compare_int64.f a0_3 a1_3).bind fun t114 => ((cmp_Or_int.f k (([t112, t113, t114] : List Int))).bind fun t118 => (some t118))))
def priority_compare.T1 : Bool × List (List Nat × List Nat) := (true, [([], []), ([0], [0]), ([], []), ([2], [2]), ([1, 3], [1, 3]), ([], []), ([5], [5]), ([6], [6]), ([], []), ([8], [8]), ([9], [9]), ([7, 10, 4], [7, 10]), ([], []), ([12], [12]), ([13], [13]), ([], []), ([15], [15]), ([16], [16]), ([14, 17, 11], [14, 17]), ([4, 11, 18], [4, 11, 18]), ([19, 18], [19]), ([20, 20, 0, 1, 2, 3, 4, 5, 6, 7, 8, 9, 10, 11, 12, 13, 14, 15, 16, 17, 18, 19, 20], [20])])
def priority_compare.B1 : List Nat := [0, 1, 0, 4, 15, 0, 32, 96, 0, 256, 768, 2047, 0, 4096, 12288, 0, 32768, 98304, 262143, 524287, 1048575, 2097151]
theorem priority_compare.tab1 : rtab .any (opsOf Try.f39 1) = priority_compare.T1 := by kernel_rfl
theorem priority_compare.bits1 : waitsOk priority_compare.T1.2 priority_compare.B1 = true := by kernel_rfl
set_option maxHeartbeats 8000000 in
set_option maxRecDepth 100000 in
theorem priority_compare.calls (k : Nat) (a0_0 : Int) (a0_1 : Int) (a0_2 : Int) (a0_3 : Int) (a1_0 : Int) (a1_1 : Int) (a1_2 : Int) (a1_3 : Int) (r : Int) (w : World) (h : priority_compare.f k a0_0 a0_1 a0_2 a0_3 a1_0 a1_1 a1_2 a1_3 = some r) :
    Calls Try.prog 39 #[.agg #[.int .i64 a0_0, .int .i64 a0_1, .int .i64 a0_2, .int .i64 a0_3], .agg #[.int .i64 a1_0, .int .i64 a1_1, .int .i64 a1_2, .int .i64 a1_3]] w fun e w' => e = .returned (.int .i64 r) ∧ Below w.heap.size w w' := by
  have hu25 := Try.underlying25
  have HB := Aside0.mk (Below.refl w.heap.size w)
  have H : ((cmp_Compare_int.f a0_1 a1_1).bind fun t112 => ((cmp_Compare_int.f a0_2 a1_2).bind fun t113 => ((cmp_Compare_int64.f a0_3 a1_3).bind fun t114 => ((cmp_Or_int.f k (([t112, t113, t114] : List Int))).bind fun t118 => (some t118))))) = some r := h
  clear h
  replace H := Option.bind_eq_some_iff.mp H
  obtain ⟨t112, A30, H⟩ := H
  replace H : ((cmp_Compare_int.f a0_2 a1_2).bind fun t113 => ((cmp_Compare_int64.f a0_3 a1_3).bind fun t114 => ((cmp_Or_int.f k (([t112, t113, t114] : List Int))).bind fun t118 => (some t118)))) = some r := H
  have A3 := Aside0.mk A30
  clear A30
  replace H := Option.bind_eq_some_iff.mp H
  obtain ⟨t113, A40, H⟩ := H
  replace H : ((cmp_Compare_int64.f a0_3 a1_3).bind fun t114 => ((cmp_Or_int.f k (([t112, t113, t114] : List Int))).bind fun t118 => (some t118))) = some r := H
  have A4 := Aside0.mk A40
  clear A40
  replace H := Option.bind_eq_some_iff.mp H
  obtain ⟨t114, A50, H⟩ := H
  replace H : ((cmp_Or_int.f k (([t112, t113, t114] : List Int))).bind fun t118 => (some t118)) = some r := H
  have A5 := Aside0.mk A50
  clear A50
  obtain ⟨y115, hy115⟩ : ∃ y_ : List Int, y_ = (([t112, t113, t114] : List Int)) := ⟨_, rfl⟩
  replace H : ((cmp_Or_int.f k y115).bind fun t118 => (some t118)) = some r := by first | (rw [hy115]; with_reducible exact H) | (have H2_ := (Option.bind_some _ _).symm.trans H; rw [hy115]; with_reducible exact H2_) | (have H2_ := (Option.bind_some _ _).symm.trans H; with_reducible exact H2_) | with_reducible exact H | (rw [hy115]; exact H) | exact H
  have Ny115 := Aside0.mk hy115
  clear hy115
  replace H := Option.bind_eq_some_iff.mp H
  obtain ⟨t118, A60, H⟩ := H
  replace H : (some t118) = some r := H
  have A6 := Aside0.mk A60
  clear A60
  obtain rfl := Option.some.inj H
  go_enter Try.func39, Try.ntmps39
  try go_wp2_with (first | ((with_reducible refine gate_dst (N := 2) rfl ?_); refine box_event ?hg (N := 2) ?hd (cs := #[.int .i64 a0_0, .int .i64 a0_1, .int .i64 a0_2, .int .i64 a0_3]) (t := 25) ?hr ?_; (case hd => rfl); (case hg => rfl); (case hr => first | (go_simp; done) | (go_simp; rfl)); intro gb110 hg w7 hbox hb; have n0_ := Aside0.mk (below_step (by repeat (first | (with_reducible first | exact HB.out | apply below_alloc | apply pw_below_drewN | apply below_drew1) | exact HB.out)) hb); have n1_ := Aside0.mk (hbox); have n2_ := Aside0.mk ((by rw [hg]; exact (below_size (by repeat (first | (with_reducible first | exact HB.out | apply below_alloc | apply pw_below_drewN | apply below_drew1) | exact HB.out))) : w.heap.size ≤ gb110)); have n3_ := Aside0.mk ((by rw [hg]; exact (below_size (by repeat (first | (with_reducible first | exact HB.out | apply below_alloc | apply pw_below_drewN | apply below_drew1) | exact HB.out))) : w.heap.size ≤ gb110)); clear HB; have HB := n0_; have BK110 := n1_; have GW110 := n2_; have GE110 := n3_; clear n0_ n1_ n2_ n3_; clear hb hbox hg) | ((with_reducible refine gate_dst (N := 3) rfl ?_); refine box_event ?hg (N := 3) ?hd (cs := #[.int .i64 a1_0, .int .i64 a1_1, .int .i64 a1_2, .int .i64 a1_3]) (t := 25) ?hr ?_; (case hd => rfl); (case hg => rfl); (case hr => first | (go_simp; done) | (go_simp; rfl)); intro gb111 hg w8 hbox hb; have n0_ := Aside0.mk (blk_below (g := gb110) (o := .cells #[.int .i64 a0_0, .int .i64 a0_1, .int .i64 a0_2, .int .i64 a0_3] 25 (0, 0)) (by (with_reducible repeat (first | refine blk_drewN ?_ _ | refine blk_drew ?_ | refine blk_alloc ?_ _)); exact BK110.out) hb); have n1_ := Aside0.mk (below_step (by repeat (first | (with_reducible first | exact HB.out | apply below_alloc | apply pw_below_drewN | apply below_drew1 | refine below_set ?_ GE110.out) | exact HB.out)) hb); have n2_ := Aside0.mk (hbox); have n3_ := Aside0.mk ((by rw [hg]; exact (below_size (by repeat (first | (with_reducible first | exact HB.out | apply below_alloc | apply pw_below_drewN | apply below_drew1 | refine below_set ?_ GE110.out) | exact HB.out))) : w.heap.size ≤ gb111)); have n4_ := Aside0.mk ((by rw [hg]; exact (below_size (by repeat (first | (with_reducible first | exact HB.out | apply below_alloc | apply pw_below_drewN | apply below_drew1 | refine below_set ?_ GE110.out) | exact HB.out))) : w.heap.size ≤ gb111)); have n5_ := Aside0.mk ((by rw [hg]; exact Nat.ne_of_lt (blk_lt (g := gb110) (o := .cells #[.int .i64 a0_0, .int .i64 a0_1, .int .i64 a0_2, .int .i64 a0_3] 25 (0, 0)) (by (with_reducible repeat (first | refine blk_drewN ?_ _ | refine blk_drew ?_ | refine blk_alloc ?_ _)); exact BK110.out)) : gb110 ≠ gb111)); have n6_ := Aside0.mk ((by rw [hg]; exact Nat.ne_of_gt (blk_lt (g := gb110) (o := .cells #[.int .i64 a0_0, .int .i64 a0_1, .int .i64 a0_2, .int .i64 a0_3] 25 (0, 0)) (by (with_reducible repeat (first | refine blk_drewN ?_ _ | refine blk_drew ?_ | refine blk_alloc ?_ _)); exact BK110.out)) : gb111 ≠ gb110)); clear BK110; clear HB; have BK110 := n0_; have HB := n1_; have BK111 := n2_; have GW111 := n3_; have GE111 := n4_; have NB110_111 := n5_; have NB111_110 := n6_; clear n0_ n1_ n2_ n3_ n4_ n5_ n6_; clear hb hbox hg))
  have n0_ := Aside0.mk (blk_drew BK110.out)
  have n1_ := Aside0.mk (blk_drew BK111.out)
  have n2_ := Aside0.mk (below_drew1 HB.out)
  clear BK110
  clear BK111
  clear HB
  have BK110 := n0_
  have BK111 := n1_
  have HB := n2_
  clear n0_ n1_ n2_
  refine start_ (n := 22) (S := fun w' => w'.cell? ⟨gb110, 0, none⟩ = some (.int .i64 a0_0) ∧ w'.cell? ⟨gb110, 1, none⟩ = some (.int .i64 a0_1) ∧ w'.cell? ⟨gb110, 2, none⟩ = some (.int .i64 a0_2) ∧ w'.cell? ⟨gb110, 3, none⟩ = some (.int .i64 a0_3) ∧ w'.cell? ⟨gb111, 0, none⟩ = some (.int .i64 a1_0) ∧ w'.cell? ⟨gb111, 1, none⟩ = some (.int .i64 a1_1) ∧ w'.cell? ⟨gb111, 2, none⟩ = some (.int .i64 a1_2) ∧ w'.cell? ⟨gb111, 3, none⟩ = some (.int .i64 a1_3)) (ds := []) #[false, false, false, false, false, false, false, false, false, false, false, false, false, false, false, false, false, false, false, false, false, false] (by kernel_rfl) rfl rfl ⟨(blk_cell BK110.out 0).trans rfl, (blk_cell BK110.out 1).trans rfl, (blk_cell BK110.out 2).trans rfl, (blk_cell BK110.out 3).trans rfl, (blk_cell BK111.out 0).trans rfl, (blk_cell BK111.out 1).trans rfl, (blk_cell BK111.out 2).trans rfl, (blk_cell BK111.out 3).trans rfl⟩ (fun hHeld => ?_); refine with_tabW priority_compare.tab1 priority_compare.bits1 (fun HT_ HW_ => ?_)
  generalize w8.drew = w9 at BK110 BK111 HB hHeld ⊢
  refine pure_ (i := 0) (N := some 5) (v := ?_) (a' := ?_) #[true, false, false, false, false, false, false, false, false, false, false, false, false, false, false, false, false, false, false, false, false, false] rfl rfl (any_of HT_.out (by kernel_rfl)) (fun _ _ _ h => h) (Or.inl ⟨by rfl, ?_⟩) ?_ ?_
  rotate_left
  · intro w'
    go_simp
    with_reducible rfl
  rotate_left
  · simp only [Act.put, List.setIfInBounds_toArray, List.set_cons_zero, List.set_cons_succ, i64_w, i32_w]
    rfl
  refine pure_ (i := 2) (N := some 7) (v := ?_) (a' := ?_) #[true, false, true, false, false, false, false, false, false, false, false, false, false, false, false, false, false, false, false, false, false, false] rfl rfl (any_of HT_.out (by kernel_rfl)) (fun _ _ _ h => h) (Or.inl ⟨by rfl, ?_⟩) ?_ ?_
  rotate_left
  · intro w'
    go_simp
    with_reducible rfl
  rotate_left
  · simp only [Act.put, List.setIfInBounds_toArray, List.set_cons_zero, List.set_cons_succ, i64_w, i32_w]
    rfl
  refine pure_ (i := 5) (N := some 10) (v := ?_) (a' := ?_) #[true, false, true, false, false, true, false, false, false, false, false, false, false, false, false, false, false, false, false, false, false, false] rfl rfl (any_of HT_.out (by kernel_rfl)) (fun _ _ _ h => h) (Or.inl ⟨by rfl, ?_⟩) ?_ ?_
  rotate_left
  · intro w'
    go_simp
    with_reducible rfl
  rotate_left
  · simp only [Act.put, List.setIfInBounds_toArray, List.set_cons_zero, List.set_cons_succ, i64_w, i32_w]
    rfl
  refine pure_ (i := 6) (N := some 11) (v := ?_) (a' := ?_) #[true, false, true, false, false, true, true, false, false, false, false, false, false, false, false, false, false, false, false, false, false, false] rfl rfl (any_of HT_.out (by kernel_rfl)) (fun _ _ _ h => h) (Or.inl ⟨by rfl, ?_⟩) ?_ ?_
  rotate_left
  · intro w'
    go_simp
    with_reducible rfl
  rotate_left
  · simp only [Act.put, List.setIfInBounds_toArray, List.set_cons_zero, List.set_cons_succ, i64_w, i32_w]
    rfl
  refine pure_ (i := 8) (N := some 13) (v := ?_) (a' := ?_) #[true, false, true, false, false, true, true, false, true, false, false, false, false, false, false, false, false, false, false, false, false, false] rfl rfl (any_of HT_.out (by kernel_rfl)) (fun _ _ _ h => h) (Or.inl ⟨by rfl, ?_⟩) ?_ ?_
  rotate_left
  · intro w'
    go_simp
    with_reducible rfl
  rotate_left
  · simp only [Act.put, List.setIfInBounds_toArray, List.set_cons_zero, List.set_cons_succ, i64_w, i32_w]
    rfl
  refine pure_ (i := 9) (N := some 14) (v := ?_) (a' := ?_) #[true, false, true, false, false, true, true, false, true, true, false, false, false, false, false, false, false, false, false, false, false, false] rfl rfl (any_of HT_.out (by kernel_rfl)) (fun _ _ _ h => h) (Or.inl ⟨by rfl, ?_⟩) ?_ ?_
  rotate_left
  · intro w'
    go_simp
    with_reducible rfl
  rotate_left
  · simp only [Act.put, List.setIfInBounds_toArray, List.set_cons_zero, List.set_cons_succ, i64_w, i32_w]
    rfl
  refine pure_ (i := 12) (N := some 17) (v := ?_) (a' := ?_) #[true, false, true, false, false, true, true, false, true, true, false, false, true, false, false, false, false, false, false, false, false, false] rfl rfl (any_of HT_.out (by kernel_rfl)) (fun _ _ _ h => h) (Or.inl ⟨by rfl, ?_⟩) ?_ ?_
  rotate_left
  · intro w'
    go_simp
    with_reducible rfl
  rotate_left
  · simp only [Act.put, List.setIfInBounds_toArray, List.set_cons_zero, List.set_cons_succ, i64_w, i32_w]
    rfl
  refine pure_ (i := 13) (N := some 18) (v := ?_) (a' := ?_) #[true, false, true, false, false, true, true, false, true, true, false, false, true, true, false, false, false, false, false, false, false, false] rfl rfl (any_of HT_.out (by kernel_rfl)) (fun _ _ _ h => h) (Or.inl ⟨by rfl, ?_⟩) ?_ ?_
  rotate_left
  · intro w'
    go_simp
    with_reducible rfl
  rotate_left
  · simp only [Act.put, List.setIfInBounds_toArray, List.set_cons_zero, List.set_cons_succ, i64_w, i32_w]
    rfl
  refine pure_ (i := 15) (N := some 20) (v := ?_) (a' := ?_) #[true, false, true, false, false, true, true, false, true, true, false, false, true, true, false, true, false, false, false, false, false, false] rfl rfl (any_of HT_.out (by kernel_rfl)) (fun _ _ _ h => h) (Or.inl ⟨by rfl, ?_⟩) ?_ ?_
  rotate_left
  · intro w'
    go_simp
    with_reducible rfl
  rotate_left
  · simp only [Act.put, List.setIfInBounds_toArray, List.set_cons_zero, List.set_cons_succ, i64_w, i32_w]
    rfl
  refine pure_ (i := 16) (N := some 21) (v := ?_) (a' := ?_) #[true, false, true, false, false, true, true, false, true, true, false, false, true, true, false, true, true, false, false, false, false, false] rfl rfl (any_of HT_.out (by kernel_rfl)) (fun _ _ _ h => h) (Or.inl ⟨by rfl, ?_⟩) ?_ ?_
  rotate_left
  · intro w'
    go_simp
    with_reducible rfl
  rotate_left
  · simp only [Act.put, List.setIfInBounds_toArray, List.set_cons_zero, List.set_cons_succ, i64_w, i32_w]
    rfl
  refine take_ (i := 1) (N := some 6) (v := ?_) (a' := ?_) #[true, true, true, false, false, true, true, false, true, true, false, false, true, true, false, true, true, false, false, false, false, false] rfl rfl (take_ofW HT_.out HW_.out (by kernel_rfl)) (fun _ _ _ h => h) (Or.inl ⟨by rfl, ?_⟩) hHeld ?_ ?_
  rotate_left
  · rintro w' ⟨s0, s1, s2, s3, s4, s5, s6, s7⟩
    go_simp
    with_reducible rfl
  rotate_left
  · simp only [Act.put, List.setIfInBounds_toArray, List.set_cons_zero, List.set_cons_succ, i64_w, i32_w]
    rfl
  refine take_ (i := 3) (N := some 8) (v := ?_) (a' := ?_) #[true, true, true, true, false, true, true, false, true, true, false, false, true, true, false, true, true, false, false, false, false, false] rfl rfl (take_ofW HT_.out HW_.out (by kernel_rfl)) (fun _ _ _ h => h) (Or.inl ⟨by rfl, ?_⟩) hHeld ?_ ?_
  rotate_left
  · rintro w' ⟨s0, s1, s2, s3, s4, s5, s6, s7⟩
    go_simp
    with_reducible rfl
  rotate_left
  · simp only [Act.put, List.setIfInBounds_toArray, List.set_cons_zero, List.set_cons_succ, i64_w, i32_w]
    rfl
  refine take_ (i := 7) (N := some 12) (v := ?_) (a' := ?_) #[true, true, true, true, false, true, true, true, true, true, false, false, true, true, false, true, true, false, false, false, false, false] rfl rfl (take_ofW HT_.out HW_.out (by kernel_rfl)) (fun _ _ _ h => h) (Or.inl ⟨by rfl, ?_⟩) hHeld ?_ ?_
  rotate_left
  · rintro w' ⟨s0, s1, s2, s3, s4, s5, s6, s7⟩
    go_simp
    with_reducible rfl
  rotate_left
  · simp only [Act.put, List.setIfInBounds_toArray, List.set_cons_zero, List.set_cons_succ, i64_w, i32_w]
    rfl
  refine take_ (i := 10) (N := some 15) (v := ?_) (a' := ?_) #[true, true, true, true, false, true, true, true, true, true, true, false, true, true, false, true, true, false, false, false, false, false] rfl rfl (take_ofW HT_.out HW_.out (by kernel_rfl)) (fun _ _ _ h => h) (Or.inl ⟨by rfl, ?_⟩) hHeld ?_ ?_
  rotate_left
  · rintro w' ⟨s0, s1, s2, s3, s4, s5, s6, s7⟩
    go_simp
    with_reducible rfl
  rotate_left
  · simp only [Act.put, List.setIfInBounds_toArray, List.set_cons_zero, List.set_cons_succ, i64_w, i32_w]
    rfl
  refine take_ (i := 14) (N := some 19) (v := ?_) (a' := ?_) #[true, true, true, true, false, true, true, true, true, true, true, false, true, true, true, true, true, false, false, false, false, false] rfl rfl (take_ofW HT_.out HW_.out (by kernel_rfl)) (fun _ _ _ h => h) (Or.inl ⟨by rfl, ?_⟩) hHeld ?_ ?_
  rotate_left
  · rintro w' ⟨s0, s1, s2, s3, s4, s5, s6, s7⟩
    go_simp
    with_reducible rfl
  rotate_left
  · simp only [Act.put, List.setIfInBounds_toArray, List.set_cons_zero, List.set_cons_succ, i64_w, i32_w]
    rfl
  refine take_ (i := 17) (N := some 22) (v := ?_) (a' := ?_) #[true, true, true, true, false, true, true, true, true, true, true, false, true, true, true, true, true, true, false, false, false, false] rfl rfl (take_ofW HT_.out HW_.out (by kernel_rfl)) (fun _ _ _ h => h) (Or.inl ⟨by rfl, ?_⟩) hHeld ?_ ?_
  rotate_left
  · rintro w' ⟨s0, s1, s2, s3, s4, s5, s6, s7⟩
    go_simp
    with_reducible rfl
  rotate_left
  · simp only [Act.put, List.setIfInBounds_toArray, List.set_cons_zero, List.set_cons_succ, i64_w, i32_w]
    rfl
  refine one_ (i := 4) (N := some 9) #[true, true, true, true, true, true, true, true, true, true, true, false, true, true, true, true, true, true, false, false, false, false] rfl rfl (one_of HT_.out (by kernel_rfl)) (by decide) (fun K hK => ?_)
  refine goes_ Try.func44 (by kernel_rfl) rfl #[.int .i64 a0_1, .int .i64 a1_1] (by rfl) rfl rfl (by (try simp only [List.map_toArray, List.map_cons, List.map_nil]); first | done | rfl | (simp only [List.length_drop, List.length_take]; rfl)) ?_
  with_reducible refine (cmp_Compare_int.calls a0_1 a1_1 t112 _ A3.out).mono ?_
  rintro e w' ⟨rfl, ⟨nd, rfl⟩⟩
  refine ⟨_, rfl, ?_⟩
  refine hK.out _ _ ⟨(blk_cell BK110.out 0).trans rfl, (blk_cell BK110.out 1).trans rfl, (blk_cell BK110.out 2).trans rfl, (blk_cell BK110.out 3).trans rfl, (blk_cell BK111.out 0).trans rfl, (blk_cell BK111.out 1).trans rfl, (blk_cell BK111.out 2).trans rfl, (blk_cell BK111.out 3).trans rfl⟩ (fun hHeld => ?_)
  clear hK K
  refine norm_ (a' := ?_) ?_ ?_
  rotate_left
  · show Act.put _ (some 9) _ = _
    simp only [Act.put, List.setIfInBounds_toArray, List.set_cons_zero, List.set_cons_succ, i64_w, i32_w]
    rfl
  refine one_ (i := 11) (N := some 16) #[true, true, true, true, true, true, true, true, true, true, true, true, true, true, true, true, true, true, false, false, false, false] rfl rfl (one_of HT_.out (by kernel_rfl)) (by decide) (fun K hK => ?_)
  refine goes_ Try.func44 (by kernel_rfl) rfl #[.int .i64 a0_2, .int .i64 a1_2] (by rfl) rfl rfl (by (try simp only [List.map_toArray, List.map_cons, List.map_nil]); first | done | rfl | (simp only [List.length_drop, List.length_take]; rfl)) ?_
  with_reducible refine (cmp_Compare_int.calls a0_2 a1_2 t113 _ A4.out).mono ?_
  rintro e w' ⟨rfl, ⟨nd, rfl⟩⟩
  refine ⟨_, rfl, ?_⟩
  refine hK.out _ _ ⟨(blk_cell BK110.out 0).trans rfl, (blk_cell BK110.out 1).trans rfl, (blk_cell BK110.out 2).trans rfl, (blk_cell BK110.out 3).trans rfl, (blk_cell BK111.out 0).trans rfl, (blk_cell BK111.out 1).trans rfl, (blk_cell BK111.out 2).trans rfl, (blk_cell BK111.out 3).trans rfl⟩ (fun hHeld => ?_)
  clear hK K
  refine norm_ (a' := ?_) ?_ ?_
  rotate_left
  · show Act.put _ (some 16) _ = _
    simp only [Act.put, List.setIfInBounds_toArray, List.set_cons_zero, List.set_cons_succ, i64_w, i32_w]
    rfl
  refine one_ (i := 18) (N := some 23) #[true, true, true, true, true, true, true, true, true, true, true, true, true, true, true, true, true, true, true, false, false, false] rfl rfl (one_of HT_.out (by kernel_rfl)) (by decide) (fun K hK => ?_)
  refine goes_ Try.func45 (by kernel_rfl) rfl #[.int .i64 a0_3, .int .i64 a1_3] (by rfl) rfl rfl (by (try simp only [List.map_toArray, List.map_cons, List.map_nil]); first | done | rfl | (simp only [List.length_drop, List.length_take]; rfl)) ?_
  with_reducible refine (cmp_Compare_int64.calls a0_3 a1_3 t114 _ A5.out).mono ?_
  rintro e w' ⟨rfl, ⟨nd, rfl⟩⟩
  refine ⟨_, rfl, ?_⟩
  refine hK.out _ _ ⟨(blk_cell BK110.out 0).trans rfl, (blk_cell BK110.out 1).trans rfl, (blk_cell BK110.out 2).trans rfl, (blk_cell BK110.out 3).trans rfl, (blk_cell BK111.out 0).trans rfl, (blk_cell BK111.out 1).trans rfl, (blk_cell BK111.out 2).trans rfl, (blk_cell BK111.out 3).trans rfl⟩ (fun hHeld => ?_)
  clear hK K
  refine norm_ (a' := ?_) ?_ ?_
  rotate_left
  · show Act.put _ (some 23) _ = _
    simp only [Act.put, List.setIfInBounds_toArray, List.set_cons_zero, List.set_cons_succ, i64_w, i32_w]
    rfl
  refine one_ (i := 19) (N := some 24) #[true, true, true, true, true, true, true, true, true, true, true, true, true, true, true, true, true, true, true, true, false, false] rfl rfl (one_of HT_.out (by kernel_rfl)) (by decide) (fun K hK => ?_)
  refine Kd.R_lit_step (Kd.int .i64) _ 3 ?hg (N := 24) ?hd (xs := ([t112, t113, t114] : List Int)) (inner := [.int .i64 t112, .int .i64 t113, .int .i64 t114]) (ok := fun _ => True) (okp := fun _ => True) ?hr ?hp (fun _ hk => hk) trivial (Below.refl _ _) (Nat.le_refl _) (by simp) ?_; (case hd => rfl); (case hg => rfl); (case hr => first | (go_simp; done) | (go_simp; rfl)); (case hp => exact (Reps.one (show Kd.M (Kd.int .i64) _ _ _ t112 [.int .i64 t112] from rfl) (Reps.one (show Kd.M (Kd.int .i64) _ _ _ t113 [.int .i64 t113] from rfl) (Reps.one (show Kd.M (Kd.int .i64) _ _ _ t114 [.int .i64 t114] from rfl) (Reps.none _ _)))))
  intro v116 w10 ho11 hb hg_ hnew_
  clear hg_ hnew_
  (first | rw [← Ny115.out] at ho11 | (simp only [Int.reduceToNat] at ho11; rw [← Ny115.out] at ho11))
  have n0_ := Aside0.mk (Kd.R_lower ho11 (below_size (by repeat (first | (with_reducible first | exact HB.out | apply below_alloc | apply pw_below_drewN | apply below_drew1 | refine below_set ?_ GE110.out | refine below_set ?_ GE111.out) | exact HB.out))))
  have n1_ := Aside0.mk (blk_below (g := gb110) (o := .cells #[.int .i64 a0_0, .int .i64 a0_1, .int .i64 a0_2, .int .i64 a0_3] 25 (0, 0)) (by (with_reducible repeat (first | refine blk_drewN ?_ _ | refine blk_drew ?_ | refine blk_alloc ?_ _)); exact BK110.out) hb)
  have n2_ := Aside0.mk (blk_below (g := gb111) (o := .cells #[.int .i64 a1_0, .int .i64 a1_1, .int .i64 a1_2, .int .i64 a1_3] 25 (0, 0)) (by (with_reducible repeat (first | refine blk_drewN ?_ _ | refine blk_drew ?_ | refine blk_alloc ?_ _)); exact BK111.out) hb)
  have n3_ := Aside0.mk (below_step (by repeat (first | (with_reducible first | exact HB.out | apply below_alloc | apply pw_below_drewN | apply below_drew1 | refine below_set ?_ GE110.out | refine below_set ?_ GE111.out) | exact HB.out)) hb)
  clear BK110
  clear BK111
  clear HB
  have HO117 := n0_
  have BK110 := n1_
  have BK111 := n2_
  have HB := n3_
  clear n0_ n1_ n2_ n3_
  clear hb ho11
  obtain ⟨Ao12, co12, eo12⟩ := Kd.R_slice HO117.out
  (first | subst eo12 | (injection eo12 with f1_ f2_ f3_; have f4_ := f1_.symm; have f5_ := f3_.symm; clear f1_ f2_ f3_; subst f4_; subst f5_))
  refine hK.out _ _ ⟨(blk_cell BK110.out 0).trans rfl, (blk_cell BK110.out 1).trans rfl, (blk_cell BK110.out 2).trans rfl, (blk_cell BK110.out 3).trans rfl, (blk_cell BK111.out 0).trans rfl, (blk_cell BK111.out 1).trans rfl, (blk_cell BK111.out 2).trans rfl, (blk_cell BK111.out 3).trans rfl⟩ (fun hHeld => ?_)
  clear hK K
  refine norm_ (a' := ?_) ?_ ?_
  rotate_left
  · show Act.put _ (some 24) _ = _
    simp only [Act.put, List.setIfInBounds_toArray, List.set_cons_zero, List.set_cons_succ, i64_w, i32_w]
    rfl
  refine one_ (i := 20) (N := some 25) #[true, true, true, true, true, true, true, true, true, true, true, true, true, true, true, true, true, true, true, true, true, false] rfl rfl (one_of HT_.out (by kernel_rfl)) (by decide) (fun K hK => ?_)
  refine goes_ Try.func43 (by kernel_rfl) rfl #[.slice Ao12 y115.length co12] (by rfl) rfl rfl (by (try simp only [List.map_toArray, List.map_cons, List.map_nil]); first | done | rfl | (simp only [List.length_drop, List.length_take]; rfl)) ?_
  with_reducible refine (cmp_Or_int.calls k _ _ y115 t118 _ ?side1 ?side2 A6.out).mono ?_
  (case side1 => repeat (first | exact (Kd.R_reads' HO117.out).2.2 | (with_reducible refine Kd.C_alloc ?_ _) | (with_reducible refine Kd.C_drewN ?_ _) | (with_reducible refine Kd.C_drew ?_)))
  (case side2 => exact (Kd.R_reads' HO117.out).2.1)
  rintro e w' ⟨rfl, ⟨nd, rfl⟩⟩
  refine ⟨_, rfl, ?_⟩
  refine hK.out _ _ ⟨(blk_cell BK110.out 0).trans rfl, (blk_cell BK110.out 1).trans rfl, (blk_cell BK110.out 2).trans rfl, (blk_cell BK110.out 3).trans rfl, (blk_cell BK111.out 0).trans rfl, (blk_cell BK111.out 1).trans rfl, (blk_cell BK111.out 2).trans rfl, (blk_cell BK111.out 3).trans rfl⟩ (fun hHeld => ?_)
  clear hK K
  refine norm_ (a' := ?_) ?_ ?_
  rotate_left
  · show Act.put _ (some 25) _ = _
    simp only [Act.put, List.setIfInBounds_toArray, List.set_cons_zero, List.set_cons_succ, i64_w, i32_w]
    rfl
  refine pure_ (i := 21) (N := some 4) (v := ?_) (a' := ?_) #[true, true, true, true, true, true, true, true, true, true, true, true, true, true, true, true, true, true, true, true, true, true] rfl rfl (any_of HT_.out (by kernel_rfl)) (fun _ _ _ h => h) (Or.inl ⟨by rfl, ?_⟩) ?_ ?_
  rotate_left
  · intro w'
    go_simp
    with_reducible rfl
  rotate_left
  · simp only [Act.put, List.setIfInBounds_toArray, List.set_cons_zero, List.set_cons_succ, i64_w, i32_w]
    rfl
  refine done_ (done_of HT_.out (by kernel_rfl)) ?_
  try go_wp2
  go_ret
  exact ⟨by first | rfl | (simp [errW_none, errW_some] <;> rfl) | (simp [*, errW_none, errW_some] <;> rfl), by repeat (first | (with_reducible first | exact HB.out | apply below_alloc | apply pw_below_drewN | apply below_drew1 | refine below_set ?_ GE110.out | refine below_set ?_ GE111.out) | exact HB.out)⟩
end Go.Proofs.Ytejidnmgjccidaa.R
end
section
namespace Go.Proofs.Ytejidnmgjccidaa.R
open Go.RowKit Go.Proofs.YtejidnmgjccidaaW.PrintWords Go.Proofs.YtejidnmgjccidaaW.PrintLast Go.Proofs.YtejidnmgjccidaaW.PrintMore
set_option linter.unusedVariables false
def possB (k n : Int) : Bool := if k = 0 then n == 0 else if k = 1 then decide (-1000000000000 ≤ n ∧ n ≤ 1000000000000) else if k = 2 then (n == 0 || n == 1) else if k = 3 then decide (1 ≤ n ∧ n ≤ 16) else false
def chk (x : S25) : Int := if x.f0 < 1 ∨ x.f0 > 16 then 1 else if x.f1 < 1 ∨ x.f1 > 1000000000 then 6 else if possB x.f2.f0 x.f2.f1 = true then 0 else 11
def lss (a b : S25) : Bool := if a.f1 = b.f1 then (if a.f2.f0 = b.f2.f0 then decide (a.f2.f1 < b.f2.f1) else decide (a.f2.f0 < b.f2.f0)) else decide (a.f1 < b.f1)
def over (o : Option S25) (x : S25) : Bool := match o with | none => true | some y => lss y x
abbrev Tb := Nat → Option S25
def put1 (t : Tb) (x : S25) : Tb := fun n => if n = x.f0.toNat ∧ chk x = 0 ∧ over (t n) x = true then some x else t n
def tabOf (l : List S25) : Tb := l.foldl put1 (fun _ => none)
def listOf (t : Tb) : List S25 := (List.range 17).filterMap t
def occ (o : Option S25) : Bool := match o with | none => false | some x => x.f2.f0 != 0
def valOf (o : Option S25) : Int × Int := match o with | none => (0, 0) | some x => (x.f2.f0, x.f2.f1)
def seqOf (o : Option S25) : Int := match o with | none => 0 | some x => x.f1
def underL (t : Tb) (o0 o1 : Int) : List Nat → Int × Int × Int
  | [] => (17, o0, o1)
  | k :: r => if occ (t k) = true then ((k : Int), (valOf (t k)).1, (valOf (t k)).2) else underL t o0 o1 r
def underOf (t : Tb) (n : Int) (o0 o1 : Int) : Int × Int × Int := underL t o0 o1 ((List.range 17).drop (n + 1).toNat)
def okLen (l : List S25) : Prop := l.length ≤ 1000
instance (l : List S25) : Decidable (okLen l) := inferInstanceAs (Decidable (l.length ≤ 1000))
def priority_Of.f (l0 : List (S25)) : Option ((List (S25))) := if okLen l0 then some (listOf (tabOf l0)) else none
def priority_Join.f (l0 : List (S25)) (l1 : List (S25)) : Option ((List (S25))) := if okLen (l0 ++ l1) then some (listOf (tabOf (l0 ++ l1))) else none
def priority_Keep.f (l0 : List (S25)) (l1 : List Int) : Option ((List (S25))) := if okLen l0 ∧ l1.length ≤ 1000 then some (listOf (fun n => if l1.contains (n : Int) = true then tabOf l0 n else none)) else none
def priority_Active.f (l0 : List (S25)) (a1_0 : Int) (a1_1 : Int) : Option (Int × Int × Int) := if okLen l0 then some (underOf (tabOf l0) 0 a1_0 a1_1) else none
def priority_Slot.f (l0 : List (S25)) (a1 : Int) : Option (Int × Int × Int) := if okLen l0 then (if a1 < 1 ∨ a1 > 16 then some (0, 0, 1) else some ((valOf (tabOf l0 a1.toNat)).1, (valOf (tabOf l0 a1.toNat)).2, 0)) else none
def priority_Under.f (l0 : List (S25)) (a1 : Int) (a2_0 : Int) (a2_1 : Int) : Option (Int × Int × Int × Int) := if okLen l0 then (if a1 < 0 ∨ a1 > 16 then some (0, 0, 0, 1) else some ((underOf (tabOf l0) a1 a2_0 a2_1).1, (underOf (tabOf l0) a1 a2_0 a2_1).2.1, (underOf (tabOf l0) a1 a2_0 a2_1).2.2, 0)) else none
def priority_Put.f (l0 : List (S25)) (a1 : Int) (a2_0 : Int) (a2_1 : Int) : Option ((List (S25)) × Int) := if okLen l0 then (if a1 < 1 ∨ a1 > 16 then some ([], 1) else if possB a2_0 a2_1 = false then some ([], 11) else if seqOf (tabOf l0 a1.toNat) + 1 > 1000000000 then some ([], 7) else some (listOf (fun n => if n = a1.toNat then some ⟨a1, seqOf (tabOf l0 a1.toNat) + 1, ⟨a2_0, a2_1⟩⟩ else tabOf l0 n), 0)) else none
theorem poss_eq (k n : Int) : priority_possible.f k n = some (possB k n) := by
  unfold priority_possible.f possB
  by_cases h0 : k = 0
  · simp [h0]
  by_cases h1 : k = 1
  · by_cases h2 : n ≥ -1000000000000 <;> simp [h1, h2]
  by_cases h2 : k = 2
  · by_cases h3 : n = 0 <;> simp [h2, h3]
  by_cases h3 : k = 3
  · by_cases h4 : n ≥ 1 <;> simp [h3, h4]
  · simp [h0, h1, h2, h3]
theorem chk_eq (k : Nat) (x : S25) : priority_Check.f (k + 1) x.f0 x.f1 x.f2.f0 x.f2.f1 = some (chk x) := by
  unfold priority_Check.f priority_level.f chk
  by_cases h1 : x.f0 < 1
  · simp [h1]
  by_cases h2 : x.f0 > 16
  · simp [h1, h2]
  by_cases h3 : x.f1 < 1
  · simp [h1, h2, h3, priority_Check.j0]
  by_cases h4 : x.f1 > 1000000000
  · simp [h1, h2, h3, h4, priority_Check.j0]
  · simp only [h1, h2, h3, h4, priority_Check.j0, poss_eq, Option.bind_some, if_false, if_true, decide_false, Bool.false_eq_true, or_self]
    cases possB x.f2.f0 x.f2.f1 <;> rfl
def cmp1 (a b : Int) : Int := if a < b then -1 else if a > b then 1 else 0
theorem cmpi_eq (a b : Int) : cmp_Compare_int.f a b = some (cmp1 a b) := by
  unfold cmp_Compare_int.f cmp_isNaN_int.f cmp1
  simp
  split <;> (try split) <;> rfl
theorem cmpj_eq (a b : Int) : cmp_Compare_int64.f a b = some (cmp1 a b) := by
  unfold cmp_Compare_int64.f cmp_isNaN_int64.f cmp1
  simp
  split <;> (try split) <;> rfl
theorem cmp1_val (a b : Int) : (a < b ∧ cmp1 a b = -1) ∨ (a = b ∧ cmp1 a b = 0) ∨ (b < a ∧ cmp1 a b = 1) := by
  unfold cmp1
  by_cases h : a < b
  · exact Or.inl ⟨h, if_pos h⟩
  · by_cases h2 : a > b
    · exact Or.inr (Or.inr ⟨h2, by rw [if_neg h, if_pos h2]⟩)
    · exact Or.inr (Or.inl ⟨by omega, by rw [if_neg h, if_neg h2]⟩)
def cmpW (a b : S25) : Int := if cmp1 a.f1 b.f1 = 0 then (if cmp1 a.f2.f0 b.f2.f0 = 0 then cmp1 a.f2.f1 b.f2.f1 else cmp1 a.f2.f0 b.f2.f0) else cmp1 a.f1 b.f1
theorem cmpW_lt (a b : S25) : decide (cmpW a b < 0) = lss a b := by
  unfold cmpW lss
  rcases cmp1_val a.f1 b.f1 with ⟨h, e⟩ | ⟨h, e⟩ | ⟨h, e⟩
  · rw [e, if_neg (by decide), if_neg (by omega)]; simp [h]
  · rw [e, if_pos rfl, if_pos h]
    rcases cmp1_val a.f2.f0 b.f2.f0 with ⟨h, e⟩ | ⟨h, e⟩ | ⟨h, e⟩
    · rw [e, if_neg (by decide), if_neg (by omega)]; simp [h]
    · rw [e, if_pos rfl, if_pos h]
      rcases cmp1_val a.f2.f1 b.f2.f1 with ⟨h, e⟩ | ⟨h, e⟩ | ⟨h, e⟩ <;> rw [e] <;> simp <;> omega
    · rw [e, if_neg (by decide), if_neg (by omega)]; simp; omega
  · rw [e, if_neg (by decide), if_neg (by omega)]; simp; omega
theorem or3 (k : Nat) (a b c : Int) : cmp_Or_int.f (k + 4) [a, b, c] = some (if a = 0 then (if b = 0 then c else b) else a) := by
  unfold cmp_Or_int.f
  have w1 : wrap64 (0 + 1) = 1 := by unfold wrap64; decide
  have w2 : wrap64 (1 + 1) = 2 := by unfold wrap64; decide
  have w3 : wrap64 (2 + 1) = 3 := by unfold wrap64; decide
  have r0 : rd [a, b, c] 0 = a := rfl
  have r1 : rd [a, b, c] 1 = b := rfl
  have r2 : rd [a, b, c] 2 = c := rfl
  have hl : (([a, b, c] : List Int).length : Int) = 3 := rfl
  rw [cmp_Or_int.l0, hl, if_pos (by decide), if_pos (by decide), if_pos (by decide), r0]
  by_cases ha : a = 0
  · rw [if_pos ha, if_pos ha, w1, cmp_Or_int.l0, hl, if_pos (by decide), if_pos (by decide), if_pos (by decide), r1]
    by_cases hb : b = 0
    · rw [if_pos hb, if_pos hb, w2, cmp_Or_int.l0, hl, if_pos (by decide), if_pos (by decide), if_pos (by decide), r2]
      by_cases hc : c = 0
      · rw [if_pos hc, w3, cmp_Or_int.l0, if_neg (by decide), hc]
      · rw [if_neg hc]
    · rw [if_neg hb, if_neg hb]
  · rw [if_neg ha, if_neg ha]
theorem cmp_eq (k : Nat) (a b : S25) : priority_compare.f (k + 4) a.f0 a.f1 a.f2.f0 a.f2.f1 b.f0 b.f1 b.f2.f0 b.f2.f1 = some (cmpW a b) := by
  unfold priority_compare.f cmpW
  rw [cmpi_eq, cmpi_eq, cmpj_eq]
  simp only [Option.bind_some, or3]
abbrev cellsW (x : S25) : Array Value := #[.int .i64 x.f0, .int .i64 x.f1, .int .i64 x.f2.f0, .int .i64 x.f2.f1]
def PtrAt (w : World) (B : Nat) (v : Value) : Option S25 → Prop
  | none => v = .pointer none
  | some x => ∃ g, v = .pointer (some ⟨g, 0, none⟩) ∧ B ≤ g ∧ w.heap[g]? = some (.cells (cellsW x) 25 (0, 0))
def Tab (w : World) (B : Nat) (cs : Array Value) (t : Tb) : Prop := cs.size = 17 ∧ ∀ k, k < 17 → PtrAt w B (cs.getD k undef) (t k)
theorem PtrAt.kept {w w' : World} {B : Nat} {v : Value} {o : Option S25} (h : PtrAt w B v o) (hk : ∀ g : Nat, B ≤ g → g < w.heap.size → w'.heap[g]? = w.heap[g]?) : PtrAt w' B v o := by
  cases o with
  | none => exact h
  | some x =>
    obtain ⟨g, e, hB, hg⟩ := h
    refine ⟨g, e, hB, (hk g hB ?_).trans hg⟩
    exact (Array.getElem?_eq_some_iff.mp hg).1
theorem PtrAt.lower {w : World} {B B' : Nat} {v : Value} {o : Option S25} (h : PtrAt w B v o) (hb : B' ≤ B) : PtrAt w B' v o := by
  cases o with
  | none => exact h
  | some x => obtain ⟨g, e, hB, hg⟩ := h; exact ⟨g, e, by omega, hg⟩
theorem Tab.kept {w w' : World} {B : Nat} {cs : Array Value} {t : Tb} (h : Tab w B cs t) (hk : ∀ g : Nat, B ≤ g → g < w.heap.size → w'.heap[g]? = w.heap[g]?) : Tab w' B cs t := ⟨h.1, fun k hk' => (h.2 k hk').kept hk⟩
theorem Tab.lower {w : World} {B B' : Nat} {cs : Array Value} {t : Tb} (h : Tab w B cs t) (hb : B' ≤ B) : Tab w B' cs t := ⟨h.1, fun k hk' => (h.2 k hk').lower hb⟩
theorem Tab.below {w w' : World} {B : Nat} {cs : Array Value} {t : Tb} (h : Tab w B cs t) (hb : Below w.heap.size w w') : Tab w' B cs t := h.kept (fun g _ hg => hb.block g hg)
theorem Tab.set {w : World} {B : Nat} {cs : Array Value} {t t' : Tb} (h : Tab w B cs t) (i : Nat) (v : Value) (hv : i < 17 → PtrAt w B v (t' i)) (ht : ∀ k, k ≠ i → t' k = t k) : Tab w B (cs.setIfInBounds i v) t' := by
  refine ⟨by simpa using h.1, fun k hk => ?_⟩
  by_cases e : k = i
  · subst e
    have : (cs.setIfInBounds k v).getD k undef = v := by simp [Array.getElem?_setIfInBounds, h.1, hk]
    rw [this]
    exact hv hk
  · have : (cs.setIfInBounds i v).getD k undef = cs.getD k undef := by simp [Array.getElem?_setIfInBounds, Ne.symm e]
    rw [this, ht k e]
    exact h.2 k hk
theorem Tab.nil (w : World) (B : Nat) : Tab w B (Array.replicate 17 (.pointer none)) (fun _ => none) := by
  refine ⟨by simp, fun k hk => ?_⟩
  show _ = _
  simp [hk]
end Go.Proofs.Ytejidnmgjccidaa.R
end
section
namespace Go.Proofs.Ytejidnmgjccidaa.R
open Go.RowKit Go.Proofs.YtejidnmgjccidaaW.PrintWords Go.Proofs.YtejidnmgjccidaaW.PrintLast Go.Proofs.YtejidnmgjccidaaW.PrintMore
set_option linter.unusedVariables false
set_option linter.unusedSimpArgs false
def OfPost (l0 : List S25) (w : World) (e : Ending) (w' : World) : Prop := ∃ cs : Array Value, e = .returned (.agg cs) ∧ Tab w' w.heap.size cs (tabOf l0) ∧ Below w.heap.size w w'
abbrev nils : Array Value := #[.pointer none, .pointer none, .pointer none, .pointer none, .pointer none, .pointer none, .pointer none, .pointer none, .pointer none, .pointer none, .pointer none, .pointer none, .pointer none, .pointer none, .pointer none, .pointer none, .pointer none]
theorem Tab.nils (w : World) (B : Nat) : Tab w B nils (fun _ => none) := Tab.nil w B
theorem PtrAt.one {w : World} {B : Nat} {v : Value} {o : Option S25} (h : PtrAt w B v o) : v.oneCell' = true := by
  cases o with
  | none => subst h; rfl
  | some x => obtain ⟨g, rfl, _⟩ := h; rfl
theorem Tab.one {w : World} {B : Nat} {cs : Array Value} {t : Tb} (h : Tab w B cs t) : cs.all (·.oneCell') = true := by
  rw [Array.all_eq_true]
  intro i hi
  have := (h.2 i (by have := h.1; omega)).one
  simpa [Array.getD, hi] using this
theorem below_setRow {B g : Nat} {w W : World} (h : Below B w W) (hg : B ≤ g) (cs : Array Value) : Below B w (W.setRow g cs) :=
  ⟨h.os, h.tape, h.output, by simp; exact h.size, fun i hi => (setRow_other W g i cs (by omega)).trans (h.block i hi)⟩
structure OfInv (l0 : List S25) (w : World) (g2 g3 : Nat) (k : Nat) (wr : World) : Prop where
  b2 : wr.heap[g2]? = some (.cells nils 56 (0, 0))
  b3 : ∃ cs, wr.heap[g3]? = some (.cells cs 56 (0, 0)) ∧ Tab wr w.heap.size cs (tabOf (l0.take k))
  bel : Below w.heap.size w wr
theorem OfInv.below {l0 : List S25} {w wr w' : World} {g2 g3 k : Nat} (h : OfInv l0 w g2 g3 k wr) (hb : Below wr.heap.size wr w') : OfInv l0 w g2 g3 k w' := by
  obtain ⟨cs, h3, ht⟩ := h.b3
  exact ⟨blk_below h.b2 hb, ⟨cs, blk_below h3 hb, ht.below hb⟩, below_step h.bel hb⟩
theorem tab_take (l0 : List S25) (k : Nat) (hk : k < l0.length) : tabOf (l0.take (k + 1)) = put1 (tabOf (l0.take k)) (rd_T25 l0 (k : Int)) := by
  have hx : rd_T25 l0 (k : Int) = l0[k] := by simp [rd_T25, List.getD_eq_getElem?_getD, List.getElem?_eq_getElem hk]
  rw [hx, List.take_succ_eq_append_getElem hk]
  unfold tabOf
  rw [List.foldl_append]
  rfl
theorem put1_no {t : Tb} {x : S25} (h : ¬ (chk x = 0 ∧ over (t x.f0.toNat) x = true)) : put1 t x = t := by
  funext n
  unfold put1
  rw [if_neg]
  rintro ⟨rfl, h1, h2⟩
  exact h ⟨h1, h2⟩
theorem put1_yes {t : Tb} {x : S25} (h1 : chk x = 0) (h2 : over (t x.f0.toNat) x = true) : put1 t x x.f0.toNat = some x ∧ ∀ n, n ≠ x.f0.toNat → put1 t x n = t n := by
  refine ⟨?_, fun n hn => ?_⟩
  · unfold put1; rw [if_pos ⟨rfl, h1, h2⟩]
  · unfold put1; rw [if_neg (fun h => hn h.1)]
theorem OfInv.keep {l0 : List S25} {w wr : World} {g2 g3 k : Nat} (h : OfInv l0 w g2 g3 k wr) (hk : k < l0.length) (hn : ¬ (chk (rd_T25 l0 (k : Int)) = 0 ∧ over (tabOf (l0.take k) (rd_T25 l0 (k : Int)).f0.toNat) (rd_T25 l0 (k : Int)) = true)) : OfInv l0 w g2 g3 (k + 1) wr := by
  obtain ⟨cs, h3, ht⟩ := h.b3
  exact ⟨h.b2, ⟨cs, h3, by rw [tab_take l0 k hk, put1_no hn]; exact ht⟩, h.bel⟩
theorem OfInv.put {l0 : List S25} {w wr : World} {g2 g3 g5 k : Nat} (h : OfInv l0 w g2 g3 k wr) (hk : k < l0.length) (h23 : g2 ≠ g3) (hg3 : w.heap.size ≤ g3) (hg5 : w.heap.size ≤ g5) (h5 : wr.heap[g5]? = some (.cells (cellsW (rd_T25 l0 (k : Int))) 25 (0, 0)))
    (h1 : chk (rd_T25 l0 (k : Int)) = 0) (h2 : over (tabOf (l0.take k) (rd_T25 l0 (k : Int)).f0.toNat) (rd_T25 l0 (k : Int)) = true) : OfInv l0 w g2 g3 (k + 1) (wr.setCell ⟨g3, (rd_T25 l0 (k : Int)).f0.toNat, none⟩ (.pointer (some ⟨g5, 0, none⟩))) := by
  obtain ⟨cs, h3, ht⟩ := h.b3
  have hp := put1_yes h1 h2
  have hT : Tab (wr.setCell ⟨g3, (rd_T25 l0 (k : Int)).f0.toNat, none⟩ (.pointer (some ⟨g5, 0, none⟩))) w.heap.size cs (tabOf (l0.take k)) := by
    refine ⟨ht.1, fun j hj => ?_⟩
    have hpj := ht.2 j hj
    cases ho : tabOf (l0.take k) j with
    | none => rw [ho] at hpj; exact hpj
    | some y =>
      rw [ho] at hpj
      obtain ⟨g, e, hB, hg⟩ := hpj
      exact ⟨g, e, hB, blk_far hg (blk_ne hg h3 (by decide)) _⟩
  refine ⟨blk_far h.b2 h23 _, ⟨cs.setIfInBounds (rd_T25 l0 (k : Int)).f0.toNat (.pointer (some ⟨g5, 0, none⟩)), blk_put h3 _ _ rfl, ?_⟩, below_set h.bel hg3⟩
  rw [tab_take l0 k hk]
  refine hT.set _ _ (fun _ => ?_) (fun n hn => hp.2 n hn)
  rw [hp.1]
  exact ⟨g5, rfl, hg5, blk_far h5 (blk_ne h5 h3 (by decide)) _⟩
theorem Tab.at {w : World} {B g : Nat} {cs : Array Value} {t : Tb} (h : Tab w B cs t) (hg : w.heap[g]? = some (.cells cs 56 (0, 0))) (k : Nat) (hk : k < 17) : w.cell? ⟨g, k, none⟩ = some (cs.getD k undef) := by
  rw [blk_cell hg k]
  simp [Array.getD, h.1, hk]
theorem chk_range {x : S25} (h : chk x = 0) : 1 ≤ x.f0 ∧ x.f0 ≤ 16 := by
  unfold chk at h
  by_cases c : x.f0 < 1 ∨ x.f0 > 16
  · rw [if_pos c] at h; omega
  · omega
set_option maxHeartbeats 16000000 in
set_option maxRecDepth 100000 in
theorem of_calls (A0 : Option Addr) (c0 : Nat) (l0 : List S25) (w : World) (hr0 : Kd.C k25 w A0 l0.length l0) (hc0 : l0.length ≤ c0) (hn : l0.length ≤ 1000) :
    Calls Try.prog 33 #[.slice A0 l0.length c0] w fun e w' => OfPost l0 w e w' := by
  have HR0 := Aside0.mk hr0
  clear hr0
  have HB := Aside0.mk (Below.refl w.heap.size w)
  go_enter Try.func33, Try.ntmps33
  go_wp2_with (first | ((with_reducible refine gate_dst (N := 2) rfl ?_); refine box_event ?hg (N := 2) ?hd (cs := nils) (t := 56) ?hr ?_; (case hd => rfl); (case hg => rfl); (case hr => first | (go_simp; done) | (go_simp; rfl)); intro g2 hg w1 hbox hb; have BK2 := Aside0.mk hbox; have GE2 := Aside0.mk ((by rw [hg]; exact Nat.le_refl _) : w.heap.size ≤ g2); have HB1 := Aside0.mk (below_step HB.out hb); clear HB hb hbox hg) | ((with_reducible refine gate_dst (N := 3) rfl ?_); refine box_event ?hg (N := 3) ?hd (cs := nils) (t := 56) ?hr ?_; (case hd => rfl); (case hg => rfl); (case hr => first | (go_simp; done) | (go_simp; rfl)); intro g3 hg w2 hbox hb; have BK3 := Aside0.mk hbox; have N23 := Aside0.mk ((by rw [hg]; exact Nat.ne_of_lt (blk_lt BK2.out)) : g2 ≠ g3); have GE3 := Aside0.mk ((by rw [hg]; exact HB1.out.size) : w.heap.size ≤ g3); have HB := Aside0.mk (below_step HB1.out hb); have BK2' := Aside0.mk (blk_below BK2.out hb); clear HB1 BK2 hb hbox hg; have BK2 := BK2'; clear BK2'))
  go_loopw [8] (fun v wr => ∃ k : Nat, k ≤ l0.length ∧ v = .int .i64 k ∧ Aside0 (OfInv l0 w g2 g3 k wr)) (fun v _ => l0.length - (intOf v).toNat)
  case atStart => exact ⟨0, Nat.zero_le _, rfl, ⟨BK2.out, ⟨nils, BK3.out, Tab.nils _ _⟩, HB.out⟩⟩
  case round =>
    clear BK2 BK3 HB
    obtain ⟨k, hk, rfl, HI⟩ := hrel
    by_cases hlt : k < l0.length
    · obtain ⟨ad, e, hx0, hx1, hx2, hx3⟩ := at_T25 HR0.out (k : Int) (by omega) (by omega)
      cases e
      replace hx0 := (HI.out.bel.cell (World.block_lt_of_cell? w _ hx0)).trans hx0
      replace hx1 := (HI.out.bel.cell (World.block_lt_of_cell? w _ hx1)).trans hx1
      replace hx2 := (HI.out.bel.cell (World.block_lt_of_cell? w _ hx2)).trans hx2
      replace hx3 := (HI.out.bel.cell (World.block_lt_of_cell? w _ hx3)).trans hx3
      rw [show ((k : Int)).toNat = k from rfl] at hx0 hx1 hx2 hx3
      have HKp := Aside0.mk (fun (W : World) (h : OfInv l0 w g2 g3 k W) => h.keep hlt)
      have HPt := Aside0.mk (fun (W : World) (g5 : Nat) (h : OfInv l0 w g2 g3 k W) => h.put hlt N23.out GE3.out (g5 := g5))
      have HC := Aside0.mk (chk_eq 0 (rd_T25 l0 (k : Int)))
      have HM := Aside0.mk (fun y => cmp_eq 0 y (rd_T25 l0 (k : Int)))
      generalize rd_T25 l0 (k : Int) = x at *
      go_wp2_with (first | ((with_reducible refine gate_dst (N := 5) rfl ?_); refine box_event ?hg (N := 5) ?hd (cs := #[.int .i64 0, .int .i64 0, .int .i64 0, .int .i64 0]) (t := 25) ?hr ?_; (case hd => rfl); (case hg => rfl); (case hr => first | (go_simp; done) | (go_simp; rfl)); intro g5 hg w5 hbox hb; have BK5 := Aside0.mk hbox; have HB5 := Aside0.mk hb; have GE5 := Aside0.mk hg; clear hb hbox hg) | (refine wpList_store_row rfl 25 (.tmp 5) (.tmp 14) rfl g5 (cellsW x) rfl rfl 25 #[.int .i64 0, .int .i64 0, .int .i64 0, .int .i64 0] BK5.out (by kernel_rfl) rfl (by simp [Value.oneCell']) ?_))
      have HB6 := Aside0.mk (show Below wr.heap.size wr (w5.setRow g5 (cellsW x)).drew from below_drew (below_setRow HB5.out (Nat.le_of_eq GE5.out.symm) _))
      have BK6 := Aside0.mk (show (w5.setRow g5 (cellsW x)).drew.heap[g5]? = some (.cells (cellsW x) 25 (0, 0)) from setRow_heap _ _ _ _ _ _ BK5.out)
      have GW5 := Aside0.mk (show w.heap.size ≤ g5 by rw [GE5.out]; exact HI.out.bel.size)
      have HI6 := Aside0.mk (HI.out.below HB6.out)
      have c60 := (blk_cell BK6.out 0).trans rfl
      have c61 := (blk_cell BK6.out 1).trans rfl
      have c62 := (blk_cell BK6.out 2).trans rfl
      have c63 := (blk_cell BK6.out 3).trans rfl
      clear hx0 hx1 hx2 hx3 BK5 HB5 HB6 HI GE5
      by_cases hc : chk x = 0
      · have hr := chk_range hc
        have hlv : x.f0.toNat < 17 := by omega
        obtain ⟨cs, h3, ht⟩ := HI6.out.b3
        have hcl := ht.at h3 x.f0.toNat hlv
        have hpt := ht.2 x.f0.toNat hlv
        have H3 := Aside0.mk h3
        clear h3 ht
        cases ho : tabOf (l0.take k) x.f0.toNat with
        | none =>
          rw [ho] at hpt
          have hpt' : cs.getD x.f0.toNat undef = .pointer none := hpt
          rw [hpt'] at hcl
          clear hpt hpt'
          have HYes := Aside0.mk (fun W h h5 => HPt.out W g5 h GW5.out h5 hc (by rw [ho]; rfl))
          clear ho
          have hcb : (chk x == 0) = true := by simpa using hc
          clear hc
          have hr1 : (0 ≤ x.f0) = True := eq_true (by omega)
          have hr2 : (x.f0 < 17) = True := eq_true (by omega)
          clear hr
          refine start_ (n := 21) (S := fun w' => w'.cell? ⟨g5, 0, none⟩ = some (.int .i64 x.f0) ∧ w'.cell? ⟨g5, 1, none⟩ = some (.int .i64 x.f1) ∧ w'.cell? ⟨g5, 2, none⟩ = some (.int .i64 x.f2.f0) ∧ w'.cell? ⟨g5, 3, none⟩ = some (.int .i64 x.f2.f1) ∧ w'.cell? ⟨g3, x.f0.toNat, none⟩ = some (.pointer none)) (ds := []) #[false, false, false, false, false, false, false, false, false, false, false, false, false, false, false, false, false, false, false, false, false] (by kernel_rfl) rfl rfl ⟨c60, c61, c62, c63, hcl⟩ (fun hHeld => ?_)
          refine take_ (i := 0) (N := some 15) (v := ?_) (a' := ?_) #[true, false, false, false, false, false, false, false, false, false, false, false, false, false, false, false, false, false, false, false, false] rfl rfl (by kernel_rfl) (fun _ _ _ h => h) (Or.inl ⟨by rfl, ?_⟩) hHeld ?_ ?_
          rotate_left
          · rintro w' ⟨s0, s1, s2, s3, s4⟩
            go_simp
            with_reducible rfl
          rotate_left
          · simp only [Act.put, List.setIfInBounds_toArray, List.set_cons_zero, List.set_cons_succ, i64_w, i32_w]
            rfl
          refine one_ (i := 1) (N := some 16) #[true, true, false, false, false, false, false, false, false, false, false, false, false, false, false, false, false, false, false, false, false] rfl rfl (by kernel_rfl) (by decide) (fun K hK => ?_)
          refine goes_ Try.func12 (by kernel_rfl) rfl #[.agg #[.int .i64 x.f0, .int .i64 x.f1, .int .i64 x.f2.f0, .int .i64 x.f2.f1]] (by rfl) rfl rfl (by simp only [List.map_toArray, List.map_cons, List.map_nil]; rfl) ?_
          with_reducible refine (priority_Check.calls 1 x.f0 x.f1 x.f2.f0 x.f2.f1 (chk x) _ HC.out).mono ?_
          rintro e w7 ⟨rfl, hb7⟩
          refine ⟨_, rfl, ?_⟩
          have HB7 := Aside0.mk hb7
          clear hb7
          refine hK.out _ _ ⟨pw_cell_below HB7.out hHeld.1, pw_cell_below HB7.out hHeld.2.1, pw_cell_below HB7.out hHeld.2.2.1, pw_cell_below HB7.out hHeld.2.2.2.1, pw_cell_below HB7.out hHeld.2.2.2.2⟩ (fun hHeld => ?_)
          clear hK K
          refine norm_ (a' := ?_) ?_ ?_
          rotate_left
          · show Act.put _ (some 16) _ = _
            simp only [Act.put, List.setIfInBounds_toArray, List.set_cons_zero, List.set_cons_succ, i64_w, i32_w]
            rfl
          refine pure_ (i := 2) (N := some 17) (v := ?_) (a' := ?_) #[true, true, true, false, false, false, false, false, false, false, false, false, false, false, false, false, false, false, false, false, false] rfl rfl (by kernel_rfl) (fun _ _ _ h => h) (Or.inl ⟨by rfl, ?_⟩) ?_ ?_
          rotate_left
          · intro w'
            go_simp
            with_reducible rfl
          rotate_left
          · simp only [Act.put, List.setIfInBounds_toArray, List.set_cons_zero, List.set_cons_succ, i64_w, i32_w]
            rfl
          refine pure_ (i := 3) (N := some 18) (v := ?_) (a' := ?_) #[true, true, true, true, false, false, false, false, false, false, false, false, false, false, false, false, false, false, false, false, false] rfl rfl (by kernel_rfl) (fun _ _ _ h => h) (Or.inl ⟨by rfl, ?_⟩) ?_ ?_
          rotate_left
          · intro w'
            go_simp
            with_reducible rfl
          rotate_left
          · simp only [Act.put, List.setIfInBounds_toArray, List.set_cons_zero, List.set_cons_succ, i64_w, i32_w]
            rfl
          refine pure_ (i := 4) (N := some 19) (v := ?_) (a' := ?_) #[true, true, true, true, true, false, false, false, false, false, false, false, false, false, false, false, false, false, false, false, false] rfl rfl (by kernel_rfl) (fun _ _ _ h => h) (Or.inl ⟨by rfl, ?_⟩) ?_ ?_
          rotate_left
          · intro w'
            go_simp
            with_reducible rfl
          rotate_left
          · simp only [Act.put, List.setIfInBounds_toArray, List.set_cons_zero, List.set_cons_succ, i64_w, i32_w]
            rfl
          refine take_ (i := 5) (N := some 20) (v := ?_) (a' := ?_) #[true, true, true, true, true, true, false, false, false, false, false, false, false, false, false, false, false, false, false, false, false] rfl rfl (by kernel_rfl) (fun _ _ _ h => h) (Or.inl ⟨by rfl, ?_⟩) hHeld ?_ ?_
          rotate_left
          · rintro w' ⟨s0, s1, s2, s3, s4⟩
            go_simp
            with_reducible rfl
          rotate_left
          · simp only [Act.put, List.setIfInBounds_toArray, List.set_cons_zero, List.set_cons_succ, i64_w, i32_w]
            rfl
          refine pure_ (i := 6) (N := some 21) (v := ?_) (a' := ?_) #[true, true, true, true, true, true, true, false, false, false, false, false, false, false, false, false, false, false, false, false, false] rfl rfl (by kernel_rfl) (fun _ _ _ h => h) (Or.inl ⟨by rfl, ?_⟩) ?_ ?_
          rotate_left
          · intro w'
            go_simp
            with_reducible rfl
          rotate_left
          · simp only [Act.put, List.setIfInBounds_toArray, List.set_cons_zero, List.set_cons_succ, i64_w, i32_w]
            rfl
          refine take_ (i := 7) (N := some 22) (v := ?_) (a' := ?_) #[true, true, true, true, true, true, true, true, false, false, false, false, false, false, false, false, false, false, false, false, false] rfl rfl (by kernel_rfl) (fun _ _ _ h => h) (Or.inl ⟨by rfl, ?_⟩) hHeld ?_ ?_
          rotate_left
          · rintro w' ⟨s0, s1, s2, s3, s4⟩
            go_simp
            with_reducible rfl
          rotate_left
          · simp only [Act.put, List.setIfInBounds_toArray, List.set_cons_zero, List.set_cons_succ, i64_w, i32_w]
            rfl
          refine pure_ (i := 8) (N := some 23) (v := ?_) (a' := ?_) #[true, true, true, true, true, true, true, true, true, false, false, false, false, false, false, false, false, false, false, false, false] rfl rfl (by kernel_rfl) (fun _ _ _ h => h) (Or.inl ⟨by rfl, ?_⟩) ?_ ?_
          rotate_left
          · intro w'
            go_simp
            with_reducible rfl
          rotate_left
          · simp only [Act.put, List.setIfInBounds_toArray, List.set_cons_zero, List.set_cons_succ, i64_w, i32_w]
            rfl
          refine pure_ (i := 9) (N := some 24) (v := ?_) (a' := ?_) #[true, true, true, true, true, true, true, true, true, true, false, false, false, false, false, false, false, false, false, false, false] rfl rfl (by kernel_rfl) (fun _ _ _ h => h) (Or.inl ⟨by rfl, ?_⟩) ?_ ?_
          rotate_left
          · intro w'
            go_simp
            with_reducible rfl
          rotate_left
          · simp only [Act.put, List.setIfInBounds_toArray, List.set_cons_zero, List.set_cons_succ, i64_w, i32_w]
            rfl
          refine pure_ (i := 10) (N := some 25) (v := undef) (a' := ?_) #[true, true, true, true, true, true, true, true, true, true, true, false, false, false, false, false, false, false, false, false, false] rfl rfl (by kernel_rfl) (fun _ _ _ h => h) (Or.inr ⟨by rfl, rfl⟩) ?_ ?_
          rotate_left
          · simp only [Act.put, List.setIfInBounds_toArray, List.set_cons_zero, List.set_cons_succ, i64_w, i32_w]
            rfl
          refine pure_ (i := 11) (N := some 26) (v := undef) (a' := ?_) #[true, true, true, true, true, true, true, true, true, true, true, true, false, false, false, false, false, false, false, false, false] rfl rfl (by kernel_rfl) (fun _ _ _ h => h) (Or.inr ⟨by rfl, rfl⟩) ?_ ?_
          rotate_left
          · simp only [Act.put, List.setIfInBounds_toArray, List.set_cons_zero, List.set_cons_succ, i64_w, i32_w]
            rfl
          refine pure_ (i := 12) (N := some 27) (v := undef) (a' := ?_) #[true, true, true, true, true, true, true, true, true, true, true, true, true, false, false, false, false, false, false, false, false] rfl rfl (by kernel_rfl) (fun _ _ _ h => h) (Or.inr ⟨by rfl, rfl⟩) ?_ ?_
          rotate_left
          · simp only [Act.put, List.setIfInBounds_toArray, List.set_cons_zero, List.set_cons_succ, i64_w, i32_w]
            rfl
          refine pure_ (i := 13) (N := some 28) (v := undef) (a' := ?_) #[true, true, true, true, true, true, true, true, true, true, true, true, true, true, false, false, false, false, false, false, false] rfl rfl (by kernel_rfl) (fun _ _ _ h => h) (Or.inr ⟨by rfl, rfl⟩) ?_ ?_
          rotate_left
          · simp only [Act.put, List.setIfInBounds_toArray, List.set_cons_zero, List.set_cons_succ, i64_w, i32_w]
            rfl
          refine pure_ (i := 14) (N := some 29) (v := undef) (a' := ?_) #[true, true, true, true, true, true, true, true, true, true, true, true, true, true, true, false, false, false, false, false, false] rfl rfl (by kernel_rfl) (fun _ _ _ h => h) (Or.inr ⟨by rfl, rfl⟩) ?_ ?_
          rotate_left
          · simp only [Act.put, List.setIfInBounds_toArray, List.set_cons_zero, List.set_cons_succ, i64_w, i32_w]
            rfl
          refine pure_ (i := 15) (N := some 30) (v := undef) (a' := ?_) #[true, true, true, true, true, true, true, true, true, true, true, true, true, true, true, true, false, false, false, false, false] rfl rfl (by kernel_rfl) (fun _ _ _ h => h) (Or.inr ⟨by rfl, rfl⟩) ?_ ?_
          rotate_left
          · simp only [Act.put, List.setIfInBounds_toArray, List.set_cons_zero, List.set_cons_succ, i64_w, i32_w]
            rfl
          refine pure_ (i := 16) (N := some 31) (v := undef) (a' := ?_) #[true, true, true, true, true, true, true, true, true, true, true, true, true, true, true, true, true, false, false, false, false] rfl rfl (by kernel_rfl) (fun _ _ _ h => h) (Or.inr ⟨by rfl, rfl⟩) ?_ ?_
          rotate_left
          · simp only [Act.put, List.setIfInBounds_toArray, List.set_cons_zero, List.set_cons_succ, i64_w, i32_w]
            rfl
          refine pure_ (i := 17) (N := some 32) (v := undef) (a' := ?_) #[true, true, true, true, true, true, true, true, true, true, true, true, true, true, true, true, true, true, false, false, false] rfl rfl (by kernel_rfl) (fun _ _ _ h => h) (Or.inr ⟨by rfl, rfl⟩) ?_ ?_
          rotate_left
          · simp only [Act.put, List.setIfInBounds_toArray, List.set_cons_zero, List.set_cons_succ, i64_w, i32_w]
            rfl
          refine pure_ (i := 18) (N := some 33) (v := undef) (a' := ?_) #[true, true, true, true, true, true, true, true, true, true, true, true, true, true, true, true, true, true, true, false, false] rfl rfl (by kernel_rfl) (fun _ _ _ h => h) (Or.inr ⟨by rfl, rfl⟩) ?_ ?_
          rotate_left
          · simp only [Act.put, List.setIfInBounds_toArray, List.set_cons_zero, List.set_cons_succ, i64_w, i32_w]
            rfl
          refine pure_ (i := 19) (N := some 34) (v := ?_) (a' := ?_) #[true, true, true, true, true, true, true, true, true, true, true, true, true, true, true, true, true, true, true, true, false] rfl rfl (by kernel_rfl) (fun _ _ _ h => h) (Or.inl ⟨by rfl, ?_⟩) ?_ ?_
          rotate_left
          · intro w'
            go_simp
            with_reducible rfl
          rotate_left
          · simp only [Act.put, List.setIfInBounds_toArray, List.set_cons_zero, List.set_cons_succ, i64_w, i32_w]
            rfl
          refine pure_ (i := 20) (N := some 35) (v := ?_) (a' := ?_) #[true, true, true, true, true, true, true, true, true, true, true, true, true, true, true, true, true, true, true, true, true] rfl rfl (by kernel_rfl) (fun _ _ _ h => h) (Or.inl ⟨by rfl, ?_⟩) ?_ ?_
          rotate_left
          · intro w'
            go_simp
            with_reducible rfl
          rotate_left
          · simp only [Act.put, List.setIfInBounds_toArray, List.set_cons_zero, List.set_cons_succ, i64_w, i32_w]
            rfl
          refine done_ (by kernel_rfl) ?_
          have hf3 : w7.frozen? ⟨g3, x.f0.toNat, none⟩ = false := blk_frozen (HI6.out.below HB7.out).b3.choose_spec.1 _
          go_wp2
          refine ⟨⟨k + 1, by omega, by go_num, ⟨HYes.out _ (HI6.out.below HB7.out) (blk_below BK6.out HB7.out)⟩⟩, by simp [RowKit.intOf]; omega⟩
        | some y =>
          rw [ho] at hpt
          obtain ⟨gy, ey, hB, hy⟩ := hpt
          rw [ey] at hcl
          clear ey
          have y60 := (blk_cell hy 0).trans rfl
          have y61 := (blk_cell hy 1).trans rfl
          have y62 := (blk_cell hy 2).trans rfl
          have y63 := (blk_cell hy 3).trans rfl
          clear hy hB
          have hlt' := cmpW_lt y x
          by_cases hl : lss y x = true
          · have HYes := Aside0.mk (fun W h h5 => HPt.out W g5 h GW5.out h5 hc (by rw [ho]; exact hl))
            clear ho
            have hcb : (chk x == 0) = true := by simpa using hc
            clear hc
            rw [hl] at hlt'
            clear hl
            have hr1 : (0 ≤ x.f0) = True := eq_true (by omega)
            have hr2 : (x.f0 < 17) = True := eq_true (by omega)
            clear hr
            refine start_ (n := 21) (S := fun w' => w'.cell? ⟨g5, 0, none⟩ = some (.int .i64 x.f0) ∧ w'.cell? ⟨g5, 1, none⟩ = some (.int .i64 x.f1) ∧ w'.cell? ⟨g5, 2, none⟩ = some (.int .i64 x.f2.f0) ∧ w'.cell? ⟨g5, 3, none⟩ = some (.int .i64 x.f2.f1) ∧ w'.cell? ⟨g3, x.f0.toNat, none⟩ = some (.pointer (some ⟨gy, 0, none⟩)) ∧ w'.cell? ⟨gy, 0, none⟩ = some (.int .i64 y.f0) ∧ w'.cell? ⟨gy, 1, none⟩ = some (.int .i64 y.f1) ∧ w'.cell? ⟨gy, 2, none⟩ = some (.int .i64 y.f2.f0) ∧ w'.cell? ⟨gy, 3, none⟩ = some (.int .i64 y.f2.f1)) (ds := []) #[false, false, false, false, false, false, false, false, false, false, false, false, false, false, false, false, false, false, false, false, false] (by kernel_rfl) rfl rfl ⟨c60, c61, c62, c63, hcl, y60, y61, y62, y63⟩ (fun hHeld => ?_)
            refine take_ (i := 0) (N := some 15) (v := ?_) (a' := ?_) #[true, false, false, false, false, false, false, false, false, false, false, false, false, false, false, false, false, false, false, false, false] rfl rfl (by kernel_rfl) (fun _ _ _ h => h) (Or.inl ⟨by rfl, ?_⟩) hHeld ?_ ?_
            rotate_left
            · rintro w' ⟨s0, s1, s2, s3, s4, s5, s6, s7, s8⟩
              go_simp
              with_reducible rfl
            rotate_left
            · simp only [Act.put, List.setIfInBounds_toArray, List.set_cons_zero, List.set_cons_succ, i64_w, i32_w]
              rfl
            refine one_ (i := 1) (N := some 16) #[true, true, false, false, false, false, false, false, false, false, false, false, false, false, false, false, false, false, false, false, false] rfl rfl (by kernel_rfl) (by decide) (fun K hK => ?_)
            refine goes_ Try.func12 (by kernel_rfl) rfl #[.agg #[.int .i64 x.f0, .int .i64 x.f1, .int .i64 x.f2.f0, .int .i64 x.f2.f1]] (by rfl) rfl rfl (by simp only [List.map_toArray, List.map_cons, List.map_nil]; rfl) ?_
            with_reducible refine (priority_Check.calls 1 x.f0 x.f1 x.f2.f0 x.f2.f1 (chk x) _ HC.out).mono ?_
            rintro e w7 ⟨rfl, hb7⟩
            refine ⟨_, rfl, ?_⟩
            have HB7 := Aside0.mk hb7
            clear hb7
            refine hK.out _ _ ⟨pw_cell_below HB7.out hHeld.1, pw_cell_below HB7.out hHeld.2.1, pw_cell_below HB7.out hHeld.2.2.1, pw_cell_below HB7.out hHeld.2.2.2.1, pw_cell_below HB7.out hHeld.2.2.2.2.1, pw_cell_below HB7.out hHeld.2.2.2.2.2.1, pw_cell_below HB7.out hHeld.2.2.2.2.2.2.1, pw_cell_below HB7.out hHeld.2.2.2.2.2.2.2.1, pw_cell_below HB7.out hHeld.2.2.2.2.2.2.2.2⟩ (fun hHeld => ?_)
            clear hK K
            refine norm_ (a' := ?_) ?_ ?_
            rotate_left
            · show Act.put _ (some 16) _ = _
              simp only [Act.put, List.setIfInBounds_toArray, List.set_cons_zero, List.set_cons_succ, i64_w, i32_w]
              rfl
            refine pure_ (i := 2) (N := some 17) (v := ?_) (a' := ?_) #[true, true, true, false, false, false, false, false, false, false, false, false, false, false, false, false, false, false, false, false, false] rfl rfl (by kernel_rfl) (fun _ _ _ h => h) (Or.inl ⟨by rfl, ?_⟩) ?_ ?_
            rotate_left
            · intro w'
              go_simp
              with_reducible rfl
            rotate_left
            · simp only [Act.put, List.setIfInBounds_toArray, List.set_cons_zero, List.set_cons_succ, i64_w, i32_w]
              rfl
            refine pure_ (i := 3) (N := some 18) (v := ?_) (a' := ?_) #[true, true, true, true, false, false, false, false, false, false, false, false, false, false, false, false, false, false, false, false, false] rfl rfl (by kernel_rfl) (fun _ _ _ h => h) (Or.inl ⟨by rfl, ?_⟩) ?_ ?_
            rotate_left
            · intro w'
              go_simp
              with_reducible rfl
            rotate_left
            · simp only [Act.put, List.setIfInBounds_toArray, List.set_cons_zero, List.set_cons_succ, i64_w, i32_w]
              rfl
            refine pure_ (i := 4) (N := some 19) (v := ?_) (a' := ?_) #[true, true, true, true, true, false, false, false, false, false, false, false, false, false, false, false, false, false, false, false, false] rfl rfl (by kernel_rfl) (fun _ _ _ h => h) (Or.inl ⟨by rfl, ?_⟩) ?_ ?_
            rotate_left
            · intro w'
              go_simp
              with_reducible rfl
            rotate_left
            · simp only [Act.put, List.setIfInBounds_toArray, List.set_cons_zero, List.set_cons_succ, i64_w, i32_w]
              rfl
            refine take_ (i := 5) (N := some 20) (v := ?_) (a' := ?_) #[true, true, true, true, true, true, false, false, false, false, false, false, false, false, false, false, false, false, false, false, false] rfl rfl (by kernel_rfl) (fun _ _ _ h => h) (Or.inl ⟨by rfl, ?_⟩) hHeld ?_ ?_
            rotate_left
            · rintro w' ⟨s0, s1, s2, s3, s4, s5, s6, s7, s8⟩
              go_simp
              with_reducible rfl
            rotate_left
            · simp only [Act.put, List.setIfInBounds_toArray, List.set_cons_zero, List.set_cons_succ, i64_w, i32_w]
              rfl
            refine pure_ (i := 6) (N := some 21) (v := ?_) (a' := ?_) #[true, true, true, true, true, true, true, false, false, false, false, false, false, false, false, false, false, false, false, false, false] rfl rfl (by kernel_rfl) (fun _ _ _ h => h) (Or.inl ⟨by rfl, ?_⟩) ?_ ?_
            rotate_left
            · intro w'
              go_simp
              with_reducible rfl
            rotate_left
            · simp only [Act.put, List.setIfInBounds_toArray, List.set_cons_zero, List.set_cons_succ, i64_w, i32_w]
              rfl
            refine take_ (i := 7) (N := some 22) (v := ?_) (a' := ?_) #[true, true, true, true, true, true, true, true, false, false, false, false, false, false, false, false, false, false, false, false, false] rfl rfl (by kernel_rfl) (fun _ _ _ h => h) (Or.inl ⟨by rfl, ?_⟩) hHeld ?_ ?_
            rotate_left
            · rintro w' ⟨s0, s1, s2, s3, s4, s5, s6, s7, s8⟩
              go_simp
              with_reducible rfl
            rotate_left
            · simp only [Act.put, List.setIfInBounds_toArray, List.set_cons_zero, List.set_cons_succ, i64_w, i32_w]
              rfl
            refine pure_ (i := 8) (N := some 23) (v := ?_) (a' := ?_) #[true, true, true, true, true, true, true, true, true, false, false, false, false, false, false, false, false, false, false, false, false] rfl rfl (by kernel_rfl) (fun _ _ _ h => h) (Or.inl ⟨by rfl, ?_⟩) ?_ ?_
            rotate_left
            · intro w'
              go_simp
              with_reducible rfl
            rotate_left
            · simp only [Act.put, List.setIfInBounds_toArray, List.set_cons_zero, List.set_cons_succ, i64_w, i32_w]
              rfl
            refine pure_ (i := 9) (N := some 24) (v := ?_) (a' := ?_) #[true, true, true, true, true, true, true, true, true, true, false, false, false, false, false, false, false, false, false, false, false] rfl rfl (by kernel_rfl) (fun _ _ _ h => h) (Or.inl ⟨by rfl, ?_⟩) ?_ ?_
            rotate_left
            · intro w'
              go_simp
              with_reducible rfl
            rotate_left
            · simp only [Act.put, List.setIfInBounds_toArray, List.set_cons_zero, List.set_cons_succ, i64_w, i32_w]
              rfl
            refine pure_ (i := 10) (N := some 25) (v := ?_) (a' := ?_) #[true, true, true, true, true, true, true, true, true, true, true, false, false, false, false, false, false, false, false, false, false] rfl rfl (by kernel_rfl) (fun _ _ _ h => h) (Or.inl ⟨by rfl, ?_⟩) ?_ ?_
            rotate_left
            · intro w'
              go_simp
              with_reducible rfl
            rotate_left
            · simp only [Act.put, List.setIfInBounds_toArray, List.set_cons_zero, List.set_cons_succ, i64_w, i32_w]
              rfl
            refine take_ (i := 11) (N := some 26) (v := ?_) (a' := ?_) #[true, true, true, true, true, true, true, true, true, true, true, true, false, false, false, false, false, false, false, false, false] rfl rfl (by kernel_rfl) (fun _ _ _ h => h) (Or.inl ⟨by rfl, ?_⟩) hHeld ?_ ?_
            rotate_left
            · rintro w' ⟨s0, s1, s2, s3, s4, s5, s6, s7, s8⟩
              go_simp
              with_reducible rfl
            rotate_left
            · simp only [Act.put, List.setIfInBounds_toArray, List.set_cons_zero, List.set_cons_succ, i64_w, i32_w]
              rfl
            refine pure_ (i := 12) (N := some 27) (v := ?_) (a' := ?_) #[true, true, true, true, true, true, true, true, true, true, true, true, true, false, false, false, false, false, false, false, false] rfl rfl (by kernel_rfl) (fun _ _ _ h => h) (Or.inl ⟨by rfl, ?_⟩) ?_ ?_
            rotate_left
            · intro w'
              go_simp
              with_reducible rfl
            rotate_left
            · simp only [Act.put, List.setIfInBounds_toArray, List.set_cons_zero, List.set_cons_succ, i64_w, i32_w]
              rfl
            refine take_ (i := 13) (N := some 28) (v := ?_) (a' := ?_) #[true, true, true, true, true, true, true, true, true, true, true, true, true, true, false, false, false, false, false, false, false] rfl rfl (by kernel_rfl) (fun _ _ _ h => h) (Or.inl ⟨by rfl, ?_⟩) hHeld ?_ ?_
            rotate_left
            · rintro w' ⟨s0, s1, s2, s3, s4, s5, s6, s7, s8⟩
              go_simp
              with_reducible rfl
            rotate_left
            · simp only [Act.put, List.setIfInBounds_toArray, List.set_cons_zero, List.set_cons_succ, i64_w, i32_w]
              rfl
            refine pure_ (i := 14) (N := some 29) (v := ?_) (a' := ?_) #[true, true, true, true, true, true, true, true, true, true, true, true, true, true, true, false, false, false, false, false, false] rfl rfl (by kernel_rfl) (fun _ _ _ h => h) (Or.inl ⟨by rfl, ?_⟩) ?_ ?_
            rotate_left
            · intro w'
              go_simp
              with_reducible rfl
            rotate_left
            · simp only [Act.put, List.setIfInBounds_toArray, List.set_cons_zero, List.set_cons_succ, i64_w, i32_w]
              rfl
            refine take_ (i := 15) (N := some 30) (v := ?_) (a' := ?_) #[true, true, true, true, true, true, true, true, true, true, true, true, true, true, true, true, false, false, false, false, false] rfl rfl (by kernel_rfl) (fun _ _ _ h => h) (Or.inl ⟨by rfl, ?_⟩) hHeld ?_ ?_
            rotate_left
            · rintro w' ⟨s0, s1, s2, s3, s4, s5, s6, s7, s8⟩
              go_simp
              with_reducible rfl
            rotate_left
            · simp only [Act.put, List.setIfInBounds_toArray, List.set_cons_zero, List.set_cons_succ, i64_w, i32_w]
              rfl
            refine take_ (i := 16) (N := some 31) (v := ?_) (a' := ?_) #[true, true, true, true, true, true, true, true, true, true, true, true, true, true, true, true, true, false, false, false, false] rfl rfl (by kernel_rfl) (fun _ _ _ h => h) (Or.inl ⟨by rfl, ?_⟩) hHeld ?_ ?_
            rotate_left
            · rintro w' ⟨s0, s1, s2, s3, s4, s5, s6, s7, s8⟩
              go_simp
              with_reducible rfl
            rotate_left
            · simp only [Act.put, List.setIfInBounds_toArray, List.set_cons_zero, List.set_cons_succ, i64_w, i32_w]
              rfl
            refine one_ (i := 17) (N := some 32) #[true, true, true, true, true, true, true, true, true, true, true, true, true, true, true, true, true, true, false, false, false] rfl rfl (by kernel_rfl) (by decide) (fun K hK => ?_)
            refine goes_ Try.func39 (by kernel_rfl) rfl #[.agg #[.int .i64 y.f0, .int .i64 y.f1, .int .i64 y.f2.f0, .int .i64 y.f2.f1], .agg #[.int .i64 x.f0, .int .i64 x.f1, .int .i64 x.f2.f0, .int .i64 x.f2.f1]] (by rfl) rfl rfl (by simp only [List.map_toArray, List.map_cons, List.map_nil]; rfl) ?_
            with_reducible refine (priority_compare.calls 4 y.f0 y.f1 y.f2.f0 y.f2.f1 x.f0 x.f1 x.f2.f0 x.f2.f1 (cmpW y x) _ (HM.out y)).mono ?_
            rintro e w8 ⟨rfl, hb8⟩
            refine ⟨_, rfl, ?_⟩
            have HB8 := Aside0.mk hb8
            clear hb8
            refine hK.out _ _ ⟨pw_cell_below HB8.out hHeld.1, pw_cell_below HB8.out hHeld.2.1, pw_cell_below HB8.out hHeld.2.2.1, pw_cell_below HB8.out hHeld.2.2.2.1, pw_cell_below HB8.out hHeld.2.2.2.2.1, pw_cell_below HB8.out hHeld.2.2.2.2.2.1, pw_cell_below HB8.out hHeld.2.2.2.2.2.2.1, pw_cell_below HB8.out hHeld.2.2.2.2.2.2.2.1, pw_cell_below HB8.out hHeld.2.2.2.2.2.2.2.2⟩ (fun hHeld => ?_)
            clear hK K
            refine norm_ (a' := ?_) ?_ ?_
            rotate_left
            · show Act.put _ (some 32) _ = _
              simp only [Act.put, List.setIfInBounds_toArray, List.set_cons_zero, List.set_cons_succ, i64_w, i32_w]
              rfl
            refine pure_ (i := 18) (N := some 33) (v := ?_) (a' := ?_) #[true, true, true, true, true, true, true, true, true, true, true, true, true, true, true, true, true, true, true, false, false] rfl rfl (by kernel_rfl) (fun _ _ _ h => h) (Or.inl ⟨by rfl, ?_⟩) ?_ ?_
            rotate_left
            · intro w'
              go_simp
              with_reducible rfl
            rotate_left
            · simp only [Act.put, List.setIfInBounds_toArray, List.set_cons_zero, List.set_cons_succ, i64_w, i32_w]
              rfl
            refine pure_ (i := 19) (N := some 34) (v := ?_) (a' := ?_) #[true, true, true, true, true, true, true, true, true, true, true, true, true, true, true, true, true, true, true, true, false] rfl rfl (by kernel_rfl) (fun _ _ _ h => h) (Or.inl ⟨by rfl, ?_⟩) ?_ ?_
            rotate_left
            · intro w'
              go_simp
              with_reducible rfl
            rotate_left
            · simp only [Act.put, List.setIfInBounds_toArray, List.set_cons_zero, List.set_cons_succ, i64_w, i32_w]
              rfl
            refine pure_ (i := 20) (N := some 35) (v := ?_) (a' := ?_) #[true, true, true, true, true, true, true, true, true, true, true, true, true, true, true, true, true, true, true, true, true] rfl rfl (by kernel_rfl) (fun _ _ _ h => h) (Or.inl ⟨by rfl, ?_⟩) ?_ ?_
            rotate_left
            · intro w'
              go_simp
              with_reducible rfl
            rotate_left
            · simp only [Act.put, List.setIfInBounds_toArray, List.set_cons_zero, List.set_cons_succ, i64_w, i32_w]
              rfl
            refine done_ (by kernel_rfl) ?_
            have HB9 := Aside0.mk (below_step HB7.out HB8.out)
            have hf3 : w8.frozen? ⟨g3, x.f0.toNat, none⟩ = false := blk_frozen (HI6.out.below HB9.out).b3.choose_spec.1 _
            go_wp2
            refine ⟨⟨k + 1, by omega, by go_num, ⟨HYes.out _ (HI6.out.below HB9.out) (blk_below BK6.out HB9.out)⟩⟩, by simp [RowKit.intOf]; omega⟩
          · have HNo := Aside0.mk (fun W h => HKp.out W h (by rw [ho]; exact fun h => hl h.2))
            clear ho
            have hcb : (chk x == 0) = true := by simpa using hc
            clear hc
            rw [Bool.eq_false_iff.mpr hl] at hlt'
            clear hl
            have hr1 : (0 ≤ x.f0) = True := eq_true (by omega)
            have hr2 : (x.f0 < 17) = True := eq_true (by omega)
            clear hr
            refine start_ (n := 21) (S := fun w' => w'.cell? ⟨g5, 0, none⟩ = some (.int .i64 x.f0) ∧ w'.cell? ⟨g5, 1, none⟩ = some (.int .i64 x.f1) ∧ w'.cell? ⟨g5, 2, none⟩ = some (.int .i64 x.f2.f0) ∧ w'.cell? ⟨g5, 3, none⟩ = some (.int .i64 x.f2.f1) ∧ w'.cell? ⟨g3, x.f0.toNat, none⟩ = some (.pointer (some ⟨gy, 0, none⟩)) ∧ w'.cell? ⟨gy, 0, none⟩ = some (.int .i64 y.f0) ∧ w'.cell? ⟨gy, 1, none⟩ = some (.int .i64 y.f1) ∧ w'.cell? ⟨gy, 2, none⟩ = some (.int .i64 y.f2.f0) ∧ w'.cell? ⟨gy, 3, none⟩ = some (.int .i64 y.f2.f1)) (ds := []) #[false, false, false, false, false, false, false, false, false, false, false, false, false, false, false, false, false, false, false, false, false] (by kernel_rfl) rfl rfl ⟨c60, c61, c62, c63, hcl, y60, y61, y62, y63⟩ (fun hHeld => ?_)
            refine take_ (i := 0) (N := some 15) (v := ?_) (a' := ?_) #[true, false, false, false, false, false, false, false, false, false, false, false, false, false, false, false, false, false, false, false, false] rfl rfl (by kernel_rfl) (fun _ _ _ h => h) (Or.inl ⟨by rfl, ?_⟩) hHeld ?_ ?_
            rotate_left
            · rintro w' ⟨s0, s1, s2, s3, s4, s5, s6, s7, s8⟩
              go_simp
              with_reducible rfl
            rotate_left
            · simp only [Act.put, List.setIfInBounds_toArray, List.set_cons_zero, List.set_cons_succ, i64_w, i32_w]
              rfl
            refine one_ (i := 1) (N := some 16) #[true, true, false, false, false, false, false, false, false, false, false, false, false, false, false, false, false, false, false, false, false] rfl rfl (by kernel_rfl) (by decide) (fun K hK => ?_)
            refine goes_ Try.func12 (by kernel_rfl) rfl #[.agg #[.int .i64 x.f0, .int .i64 x.f1, .int .i64 x.f2.f0, .int .i64 x.f2.f1]] (by rfl) rfl rfl (by simp only [List.map_toArray, List.map_cons, List.map_nil]; rfl) ?_
            with_reducible refine (priority_Check.calls 1 x.f0 x.f1 x.f2.f0 x.f2.f1 (chk x) _ HC.out).mono ?_
            rintro e w7 ⟨rfl, hb7⟩
            refine ⟨_, rfl, ?_⟩
            have HB7 := Aside0.mk hb7
            clear hb7
            refine hK.out _ _ ⟨pw_cell_below HB7.out hHeld.1, pw_cell_below HB7.out hHeld.2.1, pw_cell_below HB7.out hHeld.2.2.1, pw_cell_below HB7.out hHeld.2.2.2.1, pw_cell_below HB7.out hHeld.2.2.2.2.1, pw_cell_below HB7.out hHeld.2.2.2.2.2.1, pw_cell_below HB7.out hHeld.2.2.2.2.2.2.1, pw_cell_below HB7.out hHeld.2.2.2.2.2.2.2.1, pw_cell_below HB7.out hHeld.2.2.2.2.2.2.2.2⟩ (fun hHeld => ?_)
            clear hK K
            refine norm_ (a' := ?_) ?_ ?_
            rotate_left
            · show Act.put _ (some 16) _ = _
              simp only [Act.put, List.setIfInBounds_toArray, List.set_cons_zero, List.set_cons_succ, i64_w, i32_w]
              rfl
            refine pure_ (i := 2) (N := some 17) (v := ?_) (a' := ?_) #[true, true, true, false, false, false, false, false, false, false, false, false, false, false, false, false, false, false, false, false, false] rfl rfl (by kernel_rfl) (fun _ _ _ h => h) (Or.inl ⟨by rfl, ?_⟩) ?_ ?_
            rotate_left
            · intro w'
              go_simp
              with_reducible rfl
            rotate_left
            · simp only [Act.put, List.setIfInBounds_toArray, List.set_cons_zero, List.set_cons_succ, i64_w, i32_w]
              rfl
            refine pure_ (i := 3) (N := some 18) (v := ?_) (a' := ?_) #[true, true, true, true, false, false, false, false, false, false, false, false, false, false, false, false, false, false, false, false, false] rfl rfl (by kernel_rfl) (fun _ _ _ h => h) (Or.inl ⟨by rfl, ?_⟩) ?_ ?_
            rotate_left
            · intro w'
              go_simp
              with_reducible rfl
            rotate_left
            · simp only [Act.put, List.setIfInBounds_toArray, List.set_cons_zero, List.set_cons_succ, i64_w, i32_w]
              rfl
            refine pure_ (i := 4) (N := some 19) (v := ?_) (a' := ?_) #[true, true, true, true, true, false, false, false, false, false, false, false, false, false, false, false, false, false, false, false, false] rfl rfl (by kernel_rfl) (fun _ _ _ h => h) (Or.inl ⟨by rfl, ?_⟩) ?_ ?_
            rotate_left
            · intro w'
              go_simp
              with_reducible rfl
            rotate_left
            · simp only [Act.put, List.setIfInBounds_toArray, List.set_cons_zero, List.set_cons_succ, i64_w, i32_w]
              rfl
            refine take_ (i := 5) (N := some 20) (v := ?_) (a' := ?_) #[true, true, true, true, true, true, false, false, false, false, false, false, false, false, false, false, false, false, false, false, false] rfl rfl (by kernel_rfl) (fun _ _ _ h => h) (Or.inl ⟨by rfl, ?_⟩) hHeld ?_ ?_
            rotate_left
            · rintro w' ⟨s0, s1, s2, s3, s4, s5, s6, s7, s8⟩
              go_simp
              with_reducible rfl
            rotate_left
            · simp only [Act.put, List.setIfInBounds_toArray, List.set_cons_zero, List.set_cons_succ, i64_w, i32_w]
              rfl
            refine pure_ (i := 6) (N := some 21) (v := ?_) (a' := ?_) #[true, true, true, true, true, true, true, false, false, false, false, false, false, false, false, false, false, false, false, false, false] rfl rfl (by kernel_rfl) (fun _ _ _ h => h) (Or.inl ⟨by rfl, ?_⟩) ?_ ?_
            rotate_left
            · intro w'
              go_simp
              with_reducible rfl
            rotate_left
            · simp only [Act.put, List.setIfInBounds_toArray, List.set_cons_zero, List.set_cons_succ, i64_w, i32_w]
              rfl
            refine take_ (i := 7) (N := some 22) (v := ?_) (a' := ?_) #[true, true, true, true, true, true, true, true, false, false, false, false, false, false, false, false, false, false, false, false, false] rfl rfl (by kernel_rfl) (fun _ _ _ h => h) (Or.inl ⟨by rfl, ?_⟩) hHeld ?_ ?_
            rotate_left
            · rintro w' ⟨s0, s1, s2, s3, s4, s5, s6, s7, s8⟩
              go_simp
              with_reducible rfl
            rotate_left
            · simp only [Act.put, List.setIfInBounds_toArray, List.set_cons_zero, List.set_cons_succ, i64_w, i32_w]
              rfl
            refine pure_ (i := 8) (N := some 23) (v := ?_) (a' := ?_) #[true, true, true, true, true, true, true, true, true, false, false, false, false, false, false, false, false, false, false, false, false] rfl rfl (by kernel_rfl) (fun _ _ _ h => h) (Or.inl ⟨by rfl, ?_⟩) ?_ ?_
            rotate_left
            · intro w'
              go_simp
              with_reducible rfl
            rotate_left
            · simp only [Act.put, List.setIfInBounds_toArray, List.set_cons_zero, List.set_cons_succ, i64_w, i32_w]
              rfl
            refine pure_ (i := 9) (N := some 24) (v := ?_) (a' := ?_) #[true, true, true, true, true, true, true, true, true, true, false, false, false, false, false, false, false, false, false, false, false] rfl rfl (by kernel_rfl) (fun _ _ _ h => h) (Or.inl ⟨by rfl, ?_⟩) ?_ ?_
            rotate_left
            · intro w'
              go_simp
              with_reducible rfl
            rotate_left
            · simp only [Act.put, List.setIfInBounds_toArray, List.set_cons_zero, List.set_cons_succ, i64_w, i32_w]
              rfl
            refine pure_ (i := 10) (N := some 25) (v := ?_) (a' := ?_) #[true, true, true, true, true, true, true, true, true, true, true, false, false, false, false, false, false, false, false, false, false] rfl rfl (by kernel_rfl) (fun _ _ _ h => h) (Or.inl ⟨by rfl, ?_⟩) ?_ ?_
            rotate_left
            · intro w'
              go_simp
              with_reducible rfl
            rotate_left
            · simp only [Act.put, List.setIfInBounds_toArray, List.set_cons_zero, List.set_cons_succ, i64_w, i32_w]
              rfl
            refine take_ (i := 11) (N := some 26) (v := ?_) (a' := ?_) #[true, true, true, true, true, true, true, true, true, true, true, true, false, false, false, false, false, false, false, false, false] rfl rfl (by kernel_rfl) (fun _ _ _ h => h) (Or.inl ⟨by rfl, ?_⟩) hHeld ?_ ?_
            rotate_left
            · rintro w' ⟨s0, s1, s2, s3, s4, s5, s6, s7, s8⟩
              go_simp
              with_reducible rfl
            rotate_left
            · simp only [Act.put, List.setIfInBounds_toArray, List.set_cons_zero, List.set_cons_succ, i64_w, i32_w]
              rfl
            refine pure_ (i := 12) (N := some 27) (v := ?_) (a' := ?_) #[true, true, true, true, true, true, true, true, true, true, true, true, true, false, false, false, false, false, false, false, false] rfl rfl (by kernel_rfl) (fun _ _ _ h => h) (Or.inl ⟨by rfl, ?_⟩) ?_ ?_
            rotate_left
            · intro w'
              go_simp
              with_reducible rfl
            rotate_left
            · simp only [Act.put, List.setIfInBounds_toArray, List.set_cons_zero, List.set_cons_succ, i64_w, i32_w]
              rfl
            refine take_ (i := 13) (N := some 28) (v := ?_) (a' := ?_) #[true, true, true, true, true, true, true, true, true, true, true, true, true, true, false, false, false, false, false, false, false] rfl rfl (by kernel_rfl) (fun _ _ _ h => h) (Or.inl ⟨by rfl, ?_⟩) hHeld ?_ ?_
            rotate_left
            · rintro w' ⟨s0, s1, s2, s3, s4, s5, s6, s7, s8⟩
              go_simp
              with_reducible rfl
            rotate_left
            · simp only [Act.put, List.setIfInBounds_toArray, List.set_cons_zero, List.set_cons_succ, i64_w, i32_w]
              rfl
            refine pure_ (i := 14) (N := some 29) (v := ?_) (a' := ?_) #[true, true, true, true, true, true, true, true, true, true, true, true, true, true, true, false, false, false, false, false, false] rfl rfl (by kernel_rfl) (fun _ _ _ h => h) (Or.inl ⟨by rfl, ?_⟩) ?_ ?_
            rotate_left
            · intro w'
              go_simp
              with_reducible rfl
            rotate_left
            · simp only [Act.put, List.setIfInBounds_toArray, List.set_cons_zero, List.set_cons_succ, i64_w, i32_w]
              rfl
            refine take_ (i := 15) (N := some 30) (v := ?_) (a' := ?_) #[true, true, true, true, true, true, true, true, true, true, true, true, true, true, true, true, false, false, false, false, false] rfl rfl (by kernel_rfl) (fun _ _ _ h => h) (Or.inl ⟨by rfl, ?_⟩) hHeld ?_ ?_
            rotate_left
            · rintro w' ⟨s0, s1, s2, s3, s4, s5, s6, s7, s8⟩
              go_simp
              with_reducible rfl
            rotate_left
            · simp only [Act.put, List.setIfInBounds_toArray, List.set_cons_zero, List.set_cons_succ, i64_w, i32_w]
              rfl
            refine take_ (i := 16) (N := some 31) (v := ?_) (a' := ?_) #[true, true, true, true, true, true, true, true, true, true, true, true, true, true, true, true, true, false, false, false, false] rfl rfl (by kernel_rfl) (fun _ _ _ h => h) (Or.inl ⟨by rfl, ?_⟩) hHeld ?_ ?_
            rotate_left
            · rintro w' ⟨s0, s1, s2, s3, s4, s5, s6, s7, s8⟩
              go_simp
              with_reducible rfl
            rotate_left
            · simp only [Act.put, List.setIfInBounds_toArray, List.set_cons_zero, List.set_cons_succ, i64_w, i32_w]
              rfl
            refine one_ (i := 17) (N := some 32) #[true, true, true, true, true, true, true, true, true, true, true, true, true, true, true, true, true, true, false, false, false] rfl rfl (by kernel_rfl) (by decide) (fun K hK => ?_)
            refine goes_ Try.func39 (by kernel_rfl) rfl #[.agg #[.int .i64 y.f0, .int .i64 y.f1, .int .i64 y.f2.f0, .int .i64 y.f2.f1], .agg #[.int .i64 x.f0, .int .i64 x.f1, .int .i64 x.f2.f0, .int .i64 x.f2.f1]] (by rfl) rfl rfl (by simp only [List.map_toArray, List.map_cons, List.map_nil]; rfl) ?_
            with_reducible refine (priority_compare.calls 4 y.f0 y.f1 y.f2.f0 y.f2.f1 x.f0 x.f1 x.f2.f0 x.f2.f1 (cmpW y x) _ (HM.out y)).mono ?_
            rintro e w8 ⟨rfl, hb8⟩
            refine ⟨_, rfl, ?_⟩
            have HB8 := Aside0.mk hb8
            clear hb8
            refine hK.out _ _ ⟨pw_cell_below HB8.out hHeld.1, pw_cell_below HB8.out hHeld.2.1, pw_cell_below HB8.out hHeld.2.2.1, pw_cell_below HB8.out hHeld.2.2.2.1, pw_cell_below HB8.out hHeld.2.2.2.2.1, pw_cell_below HB8.out hHeld.2.2.2.2.2.1, pw_cell_below HB8.out hHeld.2.2.2.2.2.2.1, pw_cell_below HB8.out hHeld.2.2.2.2.2.2.2.1, pw_cell_below HB8.out hHeld.2.2.2.2.2.2.2.2⟩ (fun hHeld => ?_)
            clear hK K
            refine norm_ (a' := ?_) ?_ ?_
            rotate_left
            · show Act.put _ (some 32) _ = _
              simp only [Act.put, List.setIfInBounds_toArray, List.set_cons_zero, List.set_cons_succ, i64_w, i32_w]
              rfl
            refine pure_ (i := 18) (N := some 33) (v := ?_) (a' := ?_) #[true, true, true, true, true, true, true, true, true, true, true, true, true, true, true, true, true, true, true, false, false] rfl rfl (by kernel_rfl) (fun _ _ _ h => h) (Or.inl ⟨by rfl, ?_⟩) ?_ ?_
            rotate_left
            · intro w'
              go_simp
              with_reducible rfl
            rotate_left
            · simp only [Act.put, List.setIfInBounds_toArray, List.set_cons_zero, List.set_cons_succ, i64_w, i32_w]
              rfl
            refine pure_ (i := 19) (N := some 34) (v := ?_) (a' := ?_) #[true, true, true, true, true, true, true, true, true, true, true, true, true, true, true, true, true, true, true, true, false] rfl rfl (by kernel_rfl) (fun _ _ _ h => h) (Or.inl ⟨by rfl, ?_⟩) ?_ ?_
            rotate_left
            · intro w'
              go_simp
              with_reducible rfl
            rotate_left
            · simp only [Act.put, List.setIfInBounds_toArray, List.set_cons_zero, List.set_cons_succ, i64_w, i32_w]
              rfl
            refine pure_ (i := 20) (N := some 35) (v := ?_) (a' := ?_) #[true, true, true, true, true, true, true, true, true, true, true, true, true, true, true, true, true, true, true, true, true] rfl rfl (by kernel_rfl) (fun _ _ _ h => h) (Or.inl ⟨by rfl, ?_⟩) ?_ ?_
            rotate_left
            · intro w'
              go_simp
              with_reducible rfl
            rotate_left
            · simp only [Act.put, List.setIfInBounds_toArray, List.set_cons_zero, List.set_cons_succ, i64_w, i32_w]
              rfl
            refine done_ (by kernel_rfl) ?_
            have HB9 := Aside0.mk (below_step HB7.out HB8.out)
            go_wp2
            refine ⟨⟨k + 1, by omega, by go_num, ⟨HNo.out _ (HI6.out.below HB9.out)⟩⟩, by simp [RowKit.intOf]; omega⟩
      · have hcb : (chk x == 0) = false := by simpa using hc
        have HNo := Aside0.mk (fun W h => HKp.out W h (fun h => hc h.1))
        clear hc
        refine start_ (n := 21) (S := fun w' => w'.cell? ⟨g5, 0, none⟩ = some (.int .i64 x.f0) ∧ w'.cell? ⟨g5, 1, none⟩ = some (.int .i64 x.f1) ∧ w'.cell? ⟨g5, 2, none⟩ = some (.int .i64 x.f2.f0) ∧ w'.cell? ⟨g5, 3, none⟩ = some (.int .i64 x.f2.f1)) (ds := []) #[false, false, false, false, false, false, false, false, false, false, false, false, false, false, false, false, false, false, false, false, false] (by kernel_rfl) rfl rfl ⟨c60, c61, c62, c63⟩ (fun hHeld => ?_)
        refine take_ (i := 0) (N := some 15) (v := ?_) (a' := ?_) #[true, false, false, false, false, false, false, false, false, false, false, false, false, false, false, false, false, false, false, false, false] rfl rfl (by kernel_rfl) (fun _ _ _ h => h) (Or.inl ⟨by rfl, ?_⟩) hHeld ?_ ?_
        rotate_left
        · rintro w' ⟨s0, s1, s2, s3⟩
          go_simp
          with_reducible rfl
        rotate_left
        · simp only [Act.put, List.setIfInBounds_toArray, List.set_cons_zero, List.set_cons_succ, i64_w, i32_w]
          rfl
        refine one_ (i := 1) (N := some 16) #[true, true, false, false, false, false, false, false, false, false, false, false, false, false, false, false, false, false, false, false, false] rfl rfl (by kernel_rfl) (by decide) (fun K hK => ?_)
        refine goes_ Try.func12 (by kernel_rfl) rfl #[.agg #[.int .i64 x.f0, .int .i64 x.f1, .int .i64 x.f2.f0, .int .i64 x.f2.f1]] (by rfl) rfl rfl (by simp only [List.map_toArray, List.map_cons, List.map_nil]; rfl) ?_
        with_reducible refine (priority_Check.calls 1 x.f0 x.f1 x.f2.f0 x.f2.f1 (chk x) _ HC.out).mono ?_
        rintro e w7 ⟨rfl, hb7⟩
        refine ⟨_, rfl, ?_⟩
        have HB7 := Aside0.mk hb7
        clear hb7
        refine hK.out _ _ ⟨pw_cell_below HB7.out hHeld.1, pw_cell_below HB7.out hHeld.2.1, pw_cell_below HB7.out hHeld.2.2.1, pw_cell_below HB7.out hHeld.2.2.2⟩ (fun hHeld => ?_)
        clear hK K
        refine norm_ (a' := ?_) ?_ ?_
        rotate_left
        · show Act.put _ (some 16) _ = _
          simp only [Act.put, List.setIfInBounds_toArray, List.set_cons_zero, List.set_cons_succ, i64_w, i32_w]
          rfl
        refine pure_ (i := 2) (N := some 17) (v := ?_) (a' := ?_) #[true, true, true, false, false, false, false, false, false, false, false, false, false, false, false, false, false, false, false, false, false] rfl rfl (by kernel_rfl) (fun _ _ _ h => h) (Or.inl ⟨by rfl, ?_⟩) ?_ ?_
        rotate_left
        · intro w'
          go_simp
          with_reducible rfl
        rotate_left
        · simp only [Act.put, List.setIfInBounds_toArray, List.set_cons_zero, List.set_cons_succ, i64_w, i32_w]
          rfl
        refine pure_ (i := 3) (N := some 18) (v := ?_) (a' := ?_) #[true, true, true, true, false, false, false, false, false, false, false, false, false, false, false, false, false, false, false, false, false] rfl rfl (by kernel_rfl) (fun _ _ _ h => h) (Or.inl ⟨by rfl, ?_⟩) ?_ ?_
        rotate_left
        · intro w'
          go_simp
          with_reducible rfl
        rotate_left
        · simp only [Act.put, List.setIfInBounds_toArray, List.set_cons_zero, List.set_cons_succ, i64_w, i32_w]
          rfl
        refine pure_ (i := 4) (N := some 19) (v := undef) (a' := ?_) #[true, true, true, true, true, false, false, false, false, false, false, false, false, false, false, false, false, false, false, false, false] rfl rfl (by kernel_rfl) (fun _ _ _ h => h) (Or.inr ⟨by rfl, rfl⟩) ?_ ?_
        rotate_left
        · simp only [Act.put, List.setIfInBounds_toArray, List.set_cons_zero, List.set_cons_succ, i64_w, i32_w]
          rfl
        refine pure_ (i := 5) (N := some 20) (v := undef) (a' := ?_) #[true, true, true, true, true, true, false, false, false, false, false, false, false, false, false, false, false, false, false, false, false] rfl rfl (by kernel_rfl) (fun _ _ _ h => h) (Or.inr ⟨by rfl, rfl⟩) ?_ ?_
        rotate_left
        · simp only [Act.put, List.setIfInBounds_toArray, List.set_cons_zero, List.set_cons_succ, i64_w, i32_w]
          rfl
        refine pure_ (i := 6) (N := some 21) (v := undef) (a' := ?_) #[true, true, true, true, true, true, true, false, false, false, false, false, false, false, false, false, false, false, false, false, false] rfl rfl (by kernel_rfl) (fun _ _ _ h => h) (Or.inr ⟨by rfl, rfl⟩) ?_ ?_
        rotate_left
        · simp only [Act.put, List.setIfInBounds_toArray, List.set_cons_zero, List.set_cons_succ, i64_w, i32_w]
          rfl
        refine pure_ (i := 7) (N := some 22) (v := undef) (a' := ?_) #[true, true, true, true, true, true, true, true, false, false, false, false, false, false, false, false, false, false, false, false, false] rfl rfl (by kernel_rfl) (fun _ _ _ h => h) (Or.inr ⟨by rfl, rfl⟩) ?_ ?_
        rotate_left
        · simp only [Act.put, List.setIfInBounds_toArray, List.set_cons_zero, List.set_cons_succ, i64_w, i32_w]
          rfl
        refine pure_ (i := 8) (N := some 23) (v := undef) (a' := ?_) #[true, true, true, true, true, true, true, true, true, false, false, false, false, false, false, false, false, false, false, false, false] rfl rfl (by kernel_rfl) (fun _ _ _ h => h) (Or.inr ⟨by rfl, rfl⟩) ?_ ?_
        rotate_left
        · simp only [Act.put, List.setIfInBounds_toArray, List.set_cons_zero, List.set_cons_succ, i64_w, i32_w]
          rfl
        refine pure_ (i := 9) (N := some 24) (v := undef) (a' := ?_) #[true, true, true, true, true, true, true, true, true, true, false, false, false, false, false, false, false, false, false, false, false] rfl rfl (by kernel_rfl) (fun _ _ _ h => h) (Or.inr ⟨by rfl, rfl⟩) ?_ ?_
        rotate_left
        · simp only [Act.put, List.setIfInBounds_toArray, List.set_cons_zero, List.set_cons_succ, i64_w, i32_w]
          rfl
        refine pure_ (i := 10) (N := some 25) (v := undef) (a' := ?_) #[true, true, true, true, true, true, true, true, true, true, true, false, false, false, false, false, false, false, false, false, false] rfl rfl (by kernel_rfl) (fun _ _ _ h => h) (Or.inr ⟨by rfl, rfl⟩) ?_ ?_
        rotate_left
        · simp only [Act.put, List.setIfInBounds_toArray, List.set_cons_zero, List.set_cons_succ, i64_w, i32_w]
          rfl
        refine pure_ (i := 11) (N := some 26) (v := undef) (a' := ?_) #[true, true, true, true, true, true, true, true, true, true, true, true, false, false, false, false, false, false, false, false, false] rfl rfl (by kernel_rfl) (fun _ _ _ h => h) (Or.inr ⟨by rfl, rfl⟩) ?_ ?_
        rotate_left
        · simp only [Act.put, List.setIfInBounds_toArray, List.set_cons_zero, List.set_cons_succ, i64_w, i32_w]
          rfl
        refine pure_ (i := 12) (N := some 27) (v := undef) (a' := ?_) #[true, true, true, true, true, true, true, true, true, true, true, true, true, false, false, false, false, false, false, false, false] rfl rfl (by kernel_rfl) (fun _ _ _ h => h) (Or.inr ⟨by rfl, rfl⟩) ?_ ?_
        rotate_left
        · simp only [Act.put, List.setIfInBounds_toArray, List.set_cons_zero, List.set_cons_succ, i64_w, i32_w]
          rfl
        refine pure_ (i := 13) (N := some 28) (v := undef) (a' := ?_) #[true, true, true, true, true, true, true, true, true, true, true, true, true, true, false, false, false, false, false, false, false] rfl rfl (by kernel_rfl) (fun _ _ _ h => h) (Or.inr ⟨by rfl, rfl⟩) ?_ ?_
        rotate_left
        · simp only [Act.put, List.setIfInBounds_toArray, List.set_cons_zero, List.set_cons_succ, i64_w, i32_w]
          rfl
        refine pure_ (i := 14) (N := some 29) (v := undef) (a' := ?_) #[true, true, true, true, true, true, true, true, true, true, true, true, true, true, true, false, false, false, false, false, false] rfl rfl (by kernel_rfl) (fun _ _ _ h => h) (Or.inr ⟨by rfl, rfl⟩) ?_ ?_
        rotate_left
        · simp only [Act.put, List.setIfInBounds_toArray, List.set_cons_zero, List.set_cons_succ, i64_w, i32_w]
          rfl
        refine pure_ (i := 15) (N := some 30) (v := undef) (a' := ?_) #[true, true, true, true, true, true, true, true, true, true, true, true, true, true, true, true, false, false, false, false, false] rfl rfl (by kernel_rfl) (fun _ _ _ h => h) (Or.inr ⟨by rfl, rfl⟩) ?_ ?_
        rotate_left
        · simp only [Act.put, List.setIfInBounds_toArray, List.set_cons_zero, List.set_cons_succ, i64_w, i32_w]
          rfl
        refine pure_ (i := 16) (N := some 31) (v := undef) (a' := ?_) #[true, true, true, true, true, true, true, true, true, true, true, true, true, true, true, true, true, false, false, false, false] rfl rfl (by kernel_rfl) (fun _ _ _ h => h) (Or.inr ⟨by rfl, rfl⟩) ?_ ?_
        rotate_left
        · simp only [Act.put, List.setIfInBounds_toArray, List.set_cons_zero, List.set_cons_succ, i64_w, i32_w]
          rfl
        refine pure_ (i := 17) (N := some 32) (v := undef) (a' := ?_) #[true, true, true, true, true, true, true, true, true, true, true, true, true, true, true, true, true, true, false, false, false] rfl rfl (by kernel_rfl) (fun _ _ _ h => h) (Or.inr ⟨by rfl, rfl⟩) ?_ ?_
        rotate_left
        · simp only [Act.put, List.setIfInBounds_toArray, List.set_cons_zero, List.set_cons_succ, i64_w, i32_w]
          rfl
        refine pure_ (i := 18) (N := some 33) (v := undef) (a' := ?_) #[true, true, true, true, true, true, true, true, true, true, true, true, true, true, true, true, true, true, true, false, false] rfl rfl (by kernel_rfl) (fun _ _ _ h => h) (Or.inr ⟨by rfl, rfl⟩) ?_ ?_
        rotate_left
        · simp only [Act.put, List.setIfInBounds_toArray, List.set_cons_zero, List.set_cons_succ, i64_w, i32_w]
          rfl
        refine pure_ (i := 19) (N := some 34) (v := undef) (a' := ?_) #[true, true, true, true, true, true, true, true, true, true, true, true, true, true, true, true, true, true, true, true, false] rfl rfl (by kernel_rfl) (fun _ _ _ h => h) (Or.inr ⟨by rfl, rfl⟩) ?_ ?_
        rotate_left
        · simp only [Act.put, List.setIfInBounds_toArray, List.set_cons_zero, List.set_cons_succ, i64_w, i32_w]
          rfl
        refine pure_ (i := 20) (N := some 35) (v := ?_) (a' := ?_) #[true, true, true, true, true, true, true, true, true, true, true, true, true, true, true, true, true, true, true, true, true] rfl rfl (by kernel_rfl) (fun _ _ _ h => h) (Or.inl ⟨by rfl, ?_⟩) ?_ ?_
        rotate_left
        · intro w'
          go_simp
          with_reducible rfl
        rotate_left
        · simp only [Act.put, List.setIfInBounds_toArray, List.set_cons_zero, List.set_cons_succ, i64_w, i32_w]
          rfl
        refine done_ (by kernel_rfl) ?_
        go_wp2
        refine ⟨⟨k + 1, by omega, by go_num, ⟨HNo.out _ (HI6.out.below HB7.out)⟩⟩, by simp [RowKit.intOf]; omega⟩
    · have hke : k = l0.length := by omega
      subst hke
      obtain ⟨cs, h3, ht⟩ := HI.out.b3
      rw [List.take_length] at ht
      have H3 := Aside0.mk h3
      have HT := Aside0.mk ht
      clear h3 ht
      go_wp2_with (first | (refine wpList_load_row rfl 56 (.tmp 3) rfl g3 rfl 56 cs (0, 0) (.array 17 54) H3.out (by kernel_rfl) rfl (by rw [HT.out.1]; kernel_rfl) ?_) | (refine wpList_store_row rfl 56 (.tmp 2) (.tmp 40) rfl g2 cs rfl rfl 56 nils HI.out.b2 (by rw [HT.out.1]; kernel_rfl) HT.out.1.symm HT.out.one ?_))
      refine bodyPost_ret (v := .agg cs) (results_cell_row rfl _ _ g2 56 cs (0, 0) (.array 17 54) rfl (setRow_heap _ _ _ _ _ _ HI.out.b2) (by kernel_rfl) rfl (by rw [HT.out.1]; kernel_rfl)) rfl ⟨cs, rfl, ?_, below_setRow HI.out.bel GE2.out _⟩
      refine ⟨HT.out.1, fun j hj => ?_⟩
      have hpj := HT.out.2 j hj
      cases ho : tabOf l0 j with
      | none => rw [ho] at hpj; exact hpj
      | some y =>
        rw [ho] at hpj
        obtain ⟨g, e, hB, hg⟩ := hpj
        exact ⟨g, e, hB, (setRow_other _ g2 g cs (blk_ne hg HI.out.b2 (by decide))).trans hg⟩
end Go.Proofs.Ytejidnmgjccidaa.R
end
section
namespace Go.Proofs.Ytejidnmgjccidaa.R
open Go.RowKit Go.Proofs.YtejidnmgjccidaaW.PrintWords Go.Proofs.YtejidnmgjccidaaW.PrintLast Go.Proofs.YtejidnmgjccidaaW.PrintMore
set_option linter.unusedVariables false
set_option linter.unusedSimpArgs false
theorem underL_at (t : Tb) (o0 o1 : Int) (k : Nat) (hk : k < 17) : underL t o0 o1 ((List.range 17).drop k) = if occ (t k) = true then ((k : Int), (valOf (t k)).1, (valOf (t k)).2) else underL t o0 o1 ((List.range 17).drop (k + 1)) := by
  rw [List.drop_eq_getElem_cons (by simpa using hk)]
  simp only [List.getElem_range, underL]
set_option maxHeartbeats 16000000 in
set_option maxRecDepth 100000 in
theorem under_calls (cs : Array Value) (t : Tb) (B : Nat) (n o0 o1 r1 r2 r3 : Int) (w : World) (h : Tab w B cs t) (hn : 0 ≤ n ∧ n ≤ 16) (hr : underOf t n o0 o1 = (r1, r2, r3)) :
    Calls Try.prog 38 #[.agg cs, .int .i64 n, .agg #[.int .i64 o0, .int .i64 o1]] w fun e w' => e = .returned (.tuple #[.int .i64 r1, .agg #[.int .i64 r2, .int .i64 r3]]) ∧ Below w.heap.size w w' := by
  have HT := Aside0.mk h
  clear h
  have HR := Aside0.mk hr
  clear hr
  have HB := Aside0.mk (Below.refl w.heap.size w)
  obtain ⟨n, rfl⟩ := Int.eq_ofNat_of_zero_le hn.1
  replace hn : n ≤ 16 := by omega
  go_enter Try.func38, Try.ntmps38
  go_wp2_with (first | ((with_reducible refine gate_dst (N := 3) rfl ?_); refine box_event ?hg (N := 3) ?hd (cs := cs) (t := 56) ?hr ?_; (case hd => rfl); (case hg => rfl); (case hr => first | (go_simp; done) | (go_simp; rfl)); intro g3 hg W3 hbox hb; have BK3 := Aside0.mk hbox; have HB3 := Aside0.mk (below_step HB.out hb); clear HB; clear hb hbox hg) | ((with_reducible refine gate_dst (N := 5) rfl ?_); refine box_event ?hg (N := 5) ?hd (cs := #[.int .i64 o0, .int .i64 o1]) (t := 23) ?hr ?_; (case hd => rfl); (case hg => rfl); (case hr => first | (go_simp; done) | (go_simp; rfl)); intro g5 hg W5 hbox hb; have BK5 := Aside0.mk hbox; have BK3b := Aside0.mk (blk_below BK3.out hb); have HB5 := Aside0.mk (below_step HB3.out hb); clear HB3 BK3; clear hb hbox hg) | ((with_reducible refine gate_dst (N := 7) rfl ?_); refine box_event ?hg (N := 7) ?hd (cs := #[.int .i64 0, .int .i64 0]) (t := 23) ?hr ?_; (case hd => rfl); (case hg => rfl); (case hr => first | (go_simp; done) | (go_simp; rfl)); intro g7 hg W7 hbox hb; have GE7 := Aside0.mk ((by rw [hg]; exact HB5.out.size) : w.heap.size ≤ g7); have BK7 := Aside0.mk hbox; have BK3 := Aside0.mk (blk_below BK3b.out hb); have BK5b := Aside0.mk (blk_below BK5.out hb); have HB := Aside0.mk (below_step HB5.out hb); clear HB5 BK3b BK5; have BK5 := BK5b; clear BK5b; clear hb hbox hg))
  generalize W7 = W at *
  go_loop [8] (fun v => ∃ k : Nat, k ≤ 17 ∧ v = .int .i64 k ∧ Aside0 (underL t o0 o1 ((List.range 17).drop k) = (r1, r2, r3))) (fun v => 17 - (intOf v).toNat)
  case atStart => exact ⟨n + 1, by omega, by go_num, ⟨by have := HR.out; unfold underOf at this; rw [show ((n : Int) + 1).toNat = n + 1 by omega] at this; exact this⟩⟩
  case round =>
    obtain ⟨k, hk, rfl, HK⟩ := hrel
    by_cases hlt : k < 17
    · have hpt := HT.out.2 k hlt
      have hcl : W.cell? ⟨g3, k, none⟩ = some (cs.getD k undef) := by
        rw [blk_cell BK3.out k]
        simp [Array.getD, HT.out.1, hlt]
      have HK2 := Aside0.mk ((underL_at t o0 o1 k hlt).symm.trans HK.out)
      clear HK
      cases ho : t k with
      | none =>
        rw [ho] at hpt
        have hpt' : cs.getD k undef = .pointer none := hpt
        rw [hpt'] at hcl
        have HK3 : Aside0 (underL t o0 o1 ((List.range 17).drop (k + 1)) = (r1, r2, r3)) := ⟨by have := HK2.out; rw [ho] at this; exact this⟩
        clear hpt hpt' ho HK2
        go_wp2
        exact ⟨⟨k + 1, by omega, by go_num, HK3⟩, by simp [RowKit.intOf]; omega⟩
      | some y =>
        rw [ho] at hpt
        obtain ⟨gy, ey, hB, hy⟩ := hpt
        rw [ey] at hcl
        clear ey hB
        replace hy := blk_below hy HB.out
        have y60 := (blk_cell hy 0).trans rfl
        have y61 := (blk_cell hy 1).trans rfl
        have y62 := (blk_cell hy 2).trans rfl
        have y63 := (blk_cell hy 3).trans rfl
        have HY := Aside0.mk hy
        clear hy
        by_cases hv : y.f2.f0 = 0
        · have HK3 : Aside0 (underL t o0 o1 ((List.range 17).drop (k + 1)) = (r1, r2, r3)) := ⟨by have := HK2.out; rw [ho, if_neg (by simp [occ, hv])] at this; exact this⟩
          clear ho HK2
          have hvb : (y.f2.f0 != 0) = false := by simpa using hv
          clear hv
          go_wp2
          exact ⟨⟨k + 1, by omega, by go_num, HK3⟩, by simp [RowKit.intOf]; omega⟩
        · have HK3 : Aside0 (((k : Int), y.f2.f0, y.f2.f1) = (r1, r2, r3)) := ⟨by have := HK2.out; rw [ho, if_pos (by simp [occ, hv])] at this; exact this⟩
          clear ho HK2
          have hvb : (y.f2.f0 != 0) = true := by simpa using hv
          clear hv
          have e := HK3.out
          simp only [Prod.mk.injEq] at e
          obtain ⟨rfl, rfl, rfl⟩ := e
          clear HK3
          go_wp2
          have NY := Aside0.mk (blk_ne HY.out BK7.out (by decide))
          clear hcl BK3 BK5 HY
          refine start_ (n := 7) (S := fun w' => w'.cell? ⟨gy, 2, none⟩ = some (.int .i64 y.f2.f0) ∧ w'.cell? ⟨gy, 3, none⟩ = some (.int .i64 y.f2.f1)) (ds := [6]) #[false, false, false, false, false, false, false] (by kernel_rfl) rfl rfl ⟨y62, y63⟩ (fun hHeld => ?_)
          refine pure_ (i := 0) (N := some 29) (v := ?_) (a' := ?_) #[true, false, false, false, false, false, false] rfl rfl (by kernel_rfl) (fun _ _ _ h => h) (Or.inl ⟨by rfl, ?_⟩) ?_ ?_
          rotate_left
          · intro w'
            go_simp
            with_reducible rfl
          rotate_left
          · simp only [Act.put, List.setIfInBounds_toArray, List.set_cons_zero, List.set_cons_succ, i64_w, i32_w]
            rfl
          refine pure_ (i := 1) (N := some 30) (v := ?_) (a' := ?_) #[true, true, false, false, false, false, false] rfl rfl (by kernel_rfl) (fun _ _ _ h => h) (Or.inl ⟨by rfl, ?_⟩) ?_ ?_
          rotate_left
          · intro w'
            go_simp
            with_reducible rfl
          rotate_left
          · simp only [Act.put, List.setIfInBounds_toArray, List.set_cons_zero, List.set_cons_succ, i64_w, i32_w]
            rfl
          refine pure_ (i := 2) (N := some 31) (v := ?_) (a' := ?_) #[true, true, true, false, false, false, false] rfl rfl (by kernel_rfl) (fun _ _ _ h => h) (Or.inl ⟨by rfl, ?_⟩) ?_ ?_
          rotate_left
          · intro w'
            go_simp
            with_reducible rfl
          rotate_left
          · simp only [Act.put, List.setIfInBounds_toArray, List.set_cons_zero, List.set_cons_succ, i64_w, i32_w]
            rfl
          refine pure_ (i := 3) (N := some 32) (v := ?_) (a' := ?_) #[true, true, true, true, false, false, false] rfl rfl (by kernel_rfl) (fun _ _ _ h => h) (Or.inl ⟨by rfl, ?_⟩) ?_ ?_
          rotate_left
          · intro w'
            go_simp
            with_reducible rfl
          rotate_left
          · simp only [Act.put, List.setIfInBounds_toArray, List.set_cons_zero, List.set_cons_succ, i64_w, i32_w]
            rfl
          refine pure_ (i := 5) (N := some 6) (v := ?_) (a' := ?_) #[true, true, true, true, false, true, false] rfl rfl (by kernel_rfl) (fun _ _ _ h => h) (Or.inl ⟨by rfl, ?_⟩) ?_ ?_
          rotate_left
          · intro w'
            go_simp
            with_reducible rfl
          rotate_left
          · simp only [Act.put, List.setIfInBounds_toArray, List.set_cons_zero, List.set_cons_succ, i64_w, i32_w]
            rfl
          refine take_ (i := 4) (N := some 33) (v := ?_) (a' := ?_) #[true, true, true, true, true, true, false] rfl rfl (by kernel_rfl) (fun _ _ _ h => h) (Or.inl ⟨by rfl, ?_⟩) hHeld ?_ ?_
          rotate_left
          · rintro w' ⟨s0, s1⟩
            go_simp
            with_reducible rfl
          rotate_left
          · simp only [Act.put, List.setIfInBounds_toArray, List.set_cons_zero, List.set_cons_succ, i64_w, i32_w]
            rfl
          refine last_ (i := 6) (N := none) #[true, true, true, true, true, true, true] rfl rfl (by kernel_rfl) (by decide) (fun K hK => ?_)
          have hs0 : W.cell? ⟨g7, 0, none⟩ = some (.int .i64 0) := (blk_cell BK7.out 0).trans rfl
          have hs1 : W.cell? ⟨g7, 1, none⟩ = some (.int .i64 0) := (blk_cell BK7.out 1).trans rfl
          have hf0 := blk_frozen BK7.out 0
          have hf1 := blk_frozen BK7.out 1
          refine skip_ (w1 := ?_) (by rfl) rfl ?_ ?_
          rotate_left
          · go_simp
            rfl
          refine hK.out _ _ ?_
          clear hK K
          refine done_ (by kernel_rfl) ?_
          go_wp2
          refine bodyPost_ret (results_tc rfl _ _ g7 23 #[.int .i64 y.f2.f0, .int .i64 y.f2.f1] (0, 0) _ rfl (by (with_reducible repeat (first | refine blk_drewN ?_ _ | refine blk_drew ?_ | refine blk_alloc ?_ _)); refine blk_put (cs := #[.int .i64 y.f2.f0, .int .i64 0]) ?_ 1 _ rfl; (with_reducible repeat (first | refine blk_drewN ?_ _ | refine blk_drew ?_ | refine blk_alloc ?_ _)); refine blk_put (cs := #[.int .i64 0, .int .i64 0]) ?_ 0 _ rfl; (with_reducible repeat (first | refine blk_drewN ?_ _ | refine blk_drew ?_ | refine blk_alloc ?_ _)); exact BK7.out) Try.underlying23 rfl (by kernel_rfl)) rfl ?_
          exact ⟨rfl, by repeat (first | (with_reducible first | exact HB.out | apply below_alloc | apply pw_below_drewN | apply below_drew1 | refine below_set ?_ GE7.out) | exact HB.out)⟩
    · have hke : k = 17 := by omega
      subst hke
      have e := HK.out
      have e2 : ((17 : Int), o0, o1) = (r1, r2, r3) := e
      simp only [Prod.mk.injEq] at e2
      obtain ⟨rfl, rfl, rfl⟩ := e2
      clear HK e
      go_wp2
      have y0 : W.drew.cell? ⟨g5, 0, none⟩ = some (.int .i64 o0) := (blk_cell BK5.out 0).trans rfl
      have y1 : W.drew.cell? ⟨g5, 1, none⟩ = some (.int .i64 o1) := (blk_cell BK5.out 1).trans rfl
      clear BK3 BK5
      refine start_ (n := 3) (S := fun w' => w'.cell? ⟨g5, 0, none⟩ = some (.int .i64 o0) ∧ w'.cell? ⟨g5, 1, none⟩ = some (.int .i64 o1)) (ds := [2]) #[false, false, false] (by kernel_rfl) rfl rfl ⟨y0, y1⟩ (fun hHeld => ?_)
      refine pure_ (i := 1) (N := some 6) (v := ?_) (a' := ?_) #[false, true, false] rfl rfl (by kernel_rfl) (fun _ _ _ h => h) (Or.inl ⟨by rfl, ?_⟩) ?_ ?_
      rotate_left
      · intro w'
        go_simp
        with_reducible rfl
      rotate_left
      · simp only [Act.put, List.setIfInBounds_toArray, List.set_cons_zero, List.set_cons_succ, i64_w, i32_w]
        rfl
      refine take_ (i := 0) (N := some 34) (v := ?_) (a' := ?_) #[true, true, false] rfl rfl (by kernel_rfl) (fun _ _ _ h => h) (Or.inl ⟨by rfl, ?_⟩) hHeld ?_ ?_
      rotate_left
      · rintro w' ⟨s0, s1⟩
        go_simp
        with_reducible rfl
      rotate_left
      · simp only [Act.put, List.setIfInBounds_toArray, List.set_cons_zero, List.set_cons_succ, i64_w, i32_w]
        rfl
      refine last_ (i := 2) (N := none) #[true, true, true] rfl rfl (by kernel_rfl) (by decide) (fun K hK => ?_)
      have hs0 : W.cell? ⟨g7, 0, none⟩ = some (.int .i64 0) := (blk_cell BK7.out 0).trans rfl
      have hs1 : W.cell? ⟨g7, 1, none⟩ = some (.int .i64 0) := (blk_cell BK7.out 1).trans rfl
      have hf0 := blk_frozen BK7.out 0
      have hf1 := blk_frozen BK7.out 1
      refine skip_ (w1 := ?_) (by rfl) rfl ?_ ?_
      rotate_left
      · go_simp
        rfl
      refine hK.out _ _ ?_
      clear hK K
      refine done_ (by kernel_rfl) ?_
      go_wp2
      refine bodyPost_ret (results_tc rfl _ _ g7 23 #[.int .i64 o0, .int .i64 o1] (0, 0) _ rfl (by (with_reducible repeat (first | refine blk_drewN ?_ _ | refine blk_drew ?_ | refine blk_alloc ?_ _)); refine blk_put (cs := #[.int .i64 o0, .int .i64 0]) ?_ 1 _ rfl; (with_reducible repeat (first | refine blk_drewN ?_ _ | refine blk_drew ?_ | refine blk_alloc ?_ _)); refine blk_put (cs := #[.int .i64 0, .int .i64 0]) ?_ 0 _ rfl; (with_reducible repeat (first | refine blk_drewN ?_ _ | refine blk_drew ?_ | refine blk_alloc ?_ _)); exact BK7.out) Try.underlying23 rfl (by kernel_rfl)) rfl ?_
      exact ⟨rfl, by repeat (first | (with_reducible first | exact HB.out | apply below_alloc | apply pw_below_drewN | apply below_drew1 | refine below_set ?_ GE7.out) | exact HB.out)⟩
end Go.Proofs.Ytejidnmgjccidaa.R
end
section
namespace Go.Proofs.Ytejidnmgjccidaa.R
open Go.RowKit Go.Proofs.YtejidnmgjccidaaW.PrintWords Go.Proofs.YtejidnmgjccidaaW.PrintLast Go.Proofs.YtejidnmgjccidaaW.PrintMore
set_option linter.unusedVariables false
set_option linter.unusedSimpArgs false
set_option maxHeartbeats 16000000 in
set_option maxRecDepth 100000 in
theorem priority_Active.calls (A0 : Option Addr) (c0 : Nat) (l0 : List (S25)) (a1_0 : Int) (a1_1 : Int) (r1 : Int) (r2 : Int) (r3 : Int) (w : World) (hr0 : Kd.C k25 w A0 l0.length l0) (hc0 : l0.length ≤ c0) (h : priority_Active.f l0 a1_0 a1_1 = some (r1, r2, r3)) :
    Calls Try.prog 21 #[.slice A0 l0.length c0, .agg #[.int .i64 a1_0, .int .i64 a1_1]] w fun e w' => e = .returned (.tuple #[.int .i64 r1, .agg #[.int .i64 r2, .int .i64 r3]]) ∧ Below w.heap.size w w' := by
  unfold priority_Active.f at h
  by_cases hl : okLen l0
  · rw [if_pos hl] at h
    have HU := Aside0.mk (Option.some.inj h)
    clear h
    have hl' : l0.length ≤ 1000 := hl
    have HR0 := Aside0.mk hr0
    clear hr0
    have HB := Aside0.mk (Below.refl w.heap.size w)
    go_enter Try.func21, Try.ntmps21
    go_wp2_with (first | ((with_reducible refine gate_dst (N := 3) rfl ?_); refine box_event ?hg (N := 3) ?hd (cs := #[.int .i64 a1_0, .int .i64 a1_1]) (t := 23) ?hr ?_; (case hd => rfl); (case hg => rfl); (case hr => first | (go_simp; done) | (go_simp; rfl)); intro g3 hg W3 hbox hb; have BK3 := Aside0.mk hbox; have HB3 := Aside0.mk (below_step HB.out hb); clear HB; clear hb hbox hg) | ((with_reducible refine gate_dst (N := 5) rfl ?_); refine box_event ?hg (N := 5) ?hd (cs := #[.int .i64 0, .int .i64 0]) (t := 23) ?hr ?_; (case hd => rfl); (case hg => rfl); (case hr => first | (go_simp; done) | (go_simp; rfl)); intro g5 hg W5 hbox hb; have GE5 := Aside0.mk ((by rw [hg]; exact HB3.out.size) : w.heap.size ≤ g5); have BK5 := Aside0.mk hbox; have BK3b := Aside0.mk (blk_below BK3.out hb); have HB := Aside0.mk (below_step HB3.out hb); clear HB3 BK3; have BK3 := BK3b; clear BK3b; clear hb hbox hg))
    have y0 := (blk_cell BK3.out 0).trans rfl
    have y1 := (blk_cell BK3.out 1).trans rfl
    clear BK3
    refine start_ (n := 8) (S := fun w' => w'.cell? ⟨g3, 0, none⟩ = some (.int .i64 a1_0) ∧ w'.cell? ⟨g3, 1, none⟩ = some (.int .i64 a1_1)) (ds := [7]) #[false, false, false, false, false, false, false, false] (by kernel_rfl) rfl rfl ⟨y0, y1⟩ (fun hHeld => ?_)
    refine pure_ (i := 0) (N := some 6) (v := ?_) (a' := ?_) #[true, false, false, false, false, false, false, false] rfl rfl (by kernel_rfl) (fun _ _ _ h => h) (Or.inl ⟨by rfl, ?_⟩) ?_ ?_
    rotate_left
    · intro w'
      go_simp
      with_reducible rfl
    rotate_left
    · simp only [Act.put, List.setIfInBounds_toArray, List.set_cons_zero, List.set_cons_succ, i64_w, i32_w]
      rfl
    refine take_ (i := 2) (N := some 8) (v := ?_) (a' := ?_) #[true, false, true, false, false, false, false, false] rfl rfl (by kernel_rfl) (fun _ _ _ h => h) (Or.inl ⟨by rfl, ?_⟩) hHeld ?_ ?_
    rotate_left
    · rintro w' ⟨s0, s1⟩
      go_simp
      with_reducible rfl
    rotate_left
    · simp only [Act.put, List.setIfInBounds_toArray, List.set_cons_zero, List.set_cons_succ, i64_w, i32_w]
      rfl
    refine one_ (i := 1) (N := some 7) #[true, true, true, false, false, false, false, false] rfl rfl (by kernel_rfl) (by decide) (fun K hK => ?_)
    refine goes_ Try.func33 (by kernel_rfl) rfl #[.slice A0 l0.length c0] (by rfl) rfl rfl (by simp only [List.map_toArray, List.map_cons, List.map_nil]; rfl) ?_
    with_reducible refine (of_calls A0 c0 l0 _ (Kd.C_below HR0.out (below_drew1 HB.out)) hc0 hl').mono ?_
    rintro e w1 ⟨cs, rfl, ht, hb⟩
    refine ⟨_, rfl, ?_⟩
    have HT := Aside0.mk ht
    have HB1 := Aside0.mk (below_step (below_drew1 HB.out) hb)
    have BK5a := Aside0.mk (blk_below (blk_drew BK5.out) hb)
    have hb1 := Aside0.mk hb
    clear ht hb HB BK5
    refine hK.out _ _ ⟨pw_cell_below hb1.out hHeld.1, pw_cell_below hb1.out hHeld.2⟩ (fun hHeld => ?_)
    clear hK K
    refine norm_ (a' := ?_) ?_ ?_
    rotate_left
    · show Act.put _ (some 7) _ = _
      simp only [Act.put, List.setIfInBounds_toArray, List.set_cons_zero, List.set_cons_succ, i64_w, i32_w]
      rfl
    refine one_ (i := 3) (N := some 9) #[true, true, true, true, false, false, false, false] rfl rfl (by kernel_rfl) (by decide) (fun K hK => ?_)
    refine goes_ Try.func38 (by kernel_rfl) rfl #[.agg cs, .int .i64 0, .agg #[.int .i64 a1_0, .int .i64 a1_1]] (by rfl) rfl rfl (by simp only [List.map_toArray, List.map_cons, List.map_nil]; rfl) ?_
    with_reducible refine (under_calls cs (tabOf l0) _ 0 a1_0 a1_1 r1 r2 r3 _ HT.out (by omega) HU.out).mono ?_
    rintro e w2 ⟨rfl, hb⟩
    refine ⟨_, rfl, ?_⟩
    have HB2 := Aside0.mk (below_step HB1.out hb)
    have BK5b := Aside0.mk (blk_below BK5a.out hb)
    have hb2 := Aside0.mk hb
    clear hb HB1 BK5a
    refine hK.out _ _ ⟨pw_cell_below hb2.out hHeld.1, pw_cell_below hb2.out hHeld.2⟩ (fun hHeld => ?_)
    clear hK K
    refine norm_ (a' := ?_) ?_ ?_
    rotate_left
    · show Act.put _ (some 9) _ = _
      simp only [Act.put, List.setIfInBounds_toArray, List.set_cons_zero, List.set_cons_succ, i64_w, i32_w]
      rfl
    refine pure_ (i := 4) (N := some 10) (v := ?_) (a' := ?_) #[true, true, true, true, true, false, false, false] rfl rfl (by kernel_rfl) (fun _ _ _ h => h) (Or.inl ⟨by rfl, ?_⟩) ?_ ?_
    rotate_left
    · intro w'
      go_simp
      with_reducible rfl
    rotate_left
    · simp only [Act.put, List.setIfInBounds_toArray, List.set_cons_zero, List.set_cons_succ, i64_w, i32_w]
      rfl
    refine pure_ (i := 5) (N := some 11) (v := ?_) (a' := ?_) #[true, true, true, true, true, true, false, false] rfl rfl (by kernel_rfl) (fun _ _ _ h => h) (Or.inl ⟨by rfl, ?_⟩) ?_ ?_
    rotate_left
    · intro w'
      go_simp
      with_reducible rfl
    rotate_left
    · simp only [Act.put, List.setIfInBounds_toArray, List.set_cons_zero, List.set_cons_succ, i64_w, i32_w]
      rfl
    refine pure_ (i := 6) (N := some 4) (v := ?_) (a' := ?_) #[true, true, true, true, true, true, true, false] rfl rfl (by kernel_rfl) (fun _ _ _ h => h) (Or.inl ⟨by rfl, ?_⟩) ?_ ?_
    rotate_left
    · intro w'
      go_simp
      with_reducible rfl
    rotate_left
    · simp only [Act.put, List.setIfInBounds_toArray, List.set_cons_zero, List.set_cons_succ, i64_w, i32_w]
      rfl
    refine last_ (i := 7) (N := none) #[true, true, true, true, true, true, true, true] rfl rfl (by kernel_rfl) (by decide) (fun K hK => ?_)
    have hs0 : w2.cell? ⟨g5, 0, none⟩ = some (.int .i64 0) := (blk_cell BK5b.out 0).trans rfl
    have hs1 : w2.cell? ⟨g5, 1, none⟩ = some (.int .i64 0) := (blk_cell BK5b.out 1).trans rfl
    have hf0 := blk_frozen (BK5b.out) 0
    have hf1 := blk_frozen (BK5b.out) 1
    refine skip_ (w1 := ?_) (by rfl) rfl ?_ ?_
    rotate_left
    · go_simp
      rfl
    refine hK.out _ _ ?_
    clear hK K
    refine done_ (by kernel_rfl) ?_
    go_wp2
    refine bodyPost_ret (results_tc rfl _ _ g5 23 #[.int .i64 r2, .int .i64 r3] (0, 0) _ rfl (by (with_reducible repeat (first | refine blk_drewN ?_ _ | refine blk_drew ?_ | refine blk_alloc ?_ _)); refine blk_put (cs := #[.int .i64 r2, .int .i64 0]) ?_ 1 _ rfl; (with_reducible repeat (first | refine blk_drewN ?_ _ | refine blk_drew ?_ | refine blk_alloc ?_ _)); refine blk_put (cs := #[.int .i64 0, .int .i64 0]) ?_ 0 _ rfl; (with_reducible repeat (first | refine blk_drewN ?_ _ | refine blk_drew ?_ | refine blk_alloc ?_ _)); exact BK5b.out) Try.underlying23 rfl (by kernel_rfl)) rfl ?_
    exact ⟨rfl, by repeat (first | (with_reducible first | exact HB2.out | apply below_alloc | apply pw_below_drewN | apply below_drew1 | refine below_set ?_ GE5.out) | exact HB2.out)⟩
  · rw [if_neg hl] at h
    cases h
end Go.Proofs.Ytejidnmgjccidaa.R
end
section
namespace Go.Proofs.Ytejidnmgjccidaa.R
open Go.RowKit Go.Proofs.YtejidnmgjccidaaW.PrintWords Go.Proofs.YtejidnmgjccidaaW.PrintLast Go.Proofs.YtejidnmgjccidaaW.PrintMore
set_option linter.unusedVariables false
set_option linter.unusedSimpArgs false
theorem run_index_tab (cs : Array Value) (h : cs.size = 17) (k : Nat) (hk : k < 17) (W : World) : (Instr.index 56 (.agg cs) (.int .i64 (k : Int))).run Try.prog W = .ok (cs.getD k undef) W := by
  have hu : Try.prog.underlying 56 = some (.array 17 54) := by kernel_rfl
  have hi : (Try.prog.info? 54).map (·.size) = some 1 := by kernel_rfl
  have hu2 : Try.prog.underlying 54 = some (.pointer 25) := by kernel_rfl
  cases hq : Try.prog.info? 54 with
  | none => simp [hq] at hi
  | some i =>
    have hs : i.size = 1 := by simpa [hq] using hi
    have hlt : k < cs.size := by omega
    have hp : (part 54 cs k).run Try.prog W = .ok cs[k] W := by
      have ha : (isAgg 54).run Try.prog W = .ok false W := by
        unfold isAgg
        rw [Sem.run_bind, run_underlying hu2 W]
        rfl
      unfold part
      rw [Sem.run_bind, ha]
      simp [hlt]
    simp [Instr.index, asIntOf, Sem.run_bind, run_underlying hu, sizeOf, typeInfo, hq, hs, hk, hp, hlt]
def ListPost (t : Tb) (w : World) (e : Ending) (w' : World) : Prop := ∃ v : Value, e = .returned v ∧ Kd.R k25 25 w' w.heap.size (fun _ => True) v (listOf t) ∧ Below w.heap.size w w'
structure ListInv (t : Tb) (w : World) (k : Nat) (v : Value) (wr : World) : Prop where
  own : Kd.R k25 25 wr w.heap.size (fun _ => True) v ((List.range k).filterMap t)
  bel : Below w.heap.size w wr
theorem range_fm (t : Tb) (k : Nat) : (List.range (k + 1)).filterMap t = (List.range k).filterMap t ++ (match t k with | none => [] | some x => [x]) := by
  rw [List.range_succ, List.filterMap_append]
  cases h : t k <;> simp [h]
theorem fm_len (t : Tb) (k : Nat) : ((List.range k).filterMap t).length ≤ k := by
  have := List.length_filterMap_le t (List.range k)
  simpa using this
set_option maxHeartbeats 16000000 in
set_option maxRecDepth 100000 in
theorem list_calls (cs : Array Value) (t : Tb) (B : Nat) (w : World) (h : Tab w B cs t) :
    Calls Try.prog 34 #[.agg cs] w fun e w' => ListPost t w e w' := by
  have HT := Aside0.mk h
  clear h
  have HB := Aside0.mk (Below.refl w.heap.size w)
  have HX := Aside0.mk (run_index_tab cs HT.out.1)
  go_enter Try.func34, Try.ntmps34
  go_wp2_with (first | ((with_reducible refine gate_dst (N := 1) rfl ?_); refine box_event ?hg (N := 1) ?hd (cs := cs) (t := 56) ?hr ?_; (case hd => rfl); (case hg => rfl); (case hr => first | (go_simp; done) | (go_simp; rfl)); intro g1 hg w1 hbox hb; have BK1 := Aside0.mk hbox; have HB1 := Aside0.mk (below_step HB.out hb); clear HB hb hbox hg) | (refine wpList_load_row rfl 56 (.tmp 1) rfl g1 rfl 56 cs (0, 0) (.array 17 54) BK1.out (by kernel_rfl) rfl (by rw [HT.out.1]; kernel_rfl) ?_))
  go_loopw [3, 7] (fun v i wr => ∃ k : Nat, k ≤ 17 ∧ i = .int .i64 k ∧ Aside0 (ListInv t w k v wr)) (fun _ i _ => 17 - (intOf i).toNat)
  case atStart => exact ⟨0, Nat.zero_le _, rfl, ⟨Kd.R_nil _ _ _ _ _, HB1.out⟩⟩
  case round =>
    clear BK1 HB1
    obtain ⟨k, hk, rfl, HI⟩ := hrel
    by_cases hlt : k < 17
    · have hpt := HT.out.2 k hlt
      have hix := HX.out k hlt
      have hl := fm_len t k
      cases ho : t k with
      | none =>
        rw [ho] at hpt
        have hpt' : cs.getD k undef = .pointer none := hpt
        rw [hpt'] at hix
        have HN := Aside0.mk (show ListInv t w (k + 1) u3 wr from ⟨by rw [range_fm, ho, List.append_nil]; exact HI.out.own, HI.out.bel⟩)
        clear hpt hpt' ho
        go_wp2
        refine ⟨⟨k + 1, by omega, by go_num, HN⟩, by simp [RowKit.intOf]; omega⟩
      | some y =>
        rw [ho] at hpt
        obtain ⟨gy, ey, hB, hy⟩ := hpt
        rw [ey] at hix
        clear ey hB
        replace hy := blk_below hy (show Below w.heap.size w wr from HI.out.bel)
        have y60 := (blk_cell hy 0).trans rfl
        have y61 := (blk_cell hy 1).trans rfl
        have y62 := (blk_cell hy 2).trans rfl
        have y63 := (blk_cell hy 3).trans rfl
        clear hy
        have HN := Aside0.mk (fun W v1 (h : Kd.R k25 25 W w.heap.size (fun _ => True) v1 ((List.range k).filterMap t ++ [y])) (hb : Below w.heap.size w W) => (show ListInv t w (k + 1) v1 W from ⟨by rw [range_fm, ho]; exact h, hb⟩))
        clear ho
        go_wp2_with (at_builtin; refine Kd.R_append k25 (w0 := w) w.heap.size rfl (.tmp 12) (.tmp 16) 26 25 (.agg #[(.int .i64 0), (.int .i64 0), (.int .i64 0), (.int .i64 0)]) 32 rfl Try.underlying26 info25 rfl (by decide) (by omega) u3 ((List.range k).filterMap t) y [.int .i64 y.f0, .int .i64 y.f1, .int .i64 y.f2.f0, .int .i64 y.f2.f1] (fun _ => True) (fun _ => False) rfl (by first | (go_simp; done) | (go_simp; rfl)) (k25_mkM _ _ _ y) (fun _ hk => hk.elim) (fun _ _ => trivial) HI.out.own HI.out.bel HI.out.bel.size (by omega) ?_; intro v1 w9 ho hb hg hat; have HN1 := Aside0.mk (HN.out w9 v1 ho hb); clear ho hb hg hat)
        refine ⟨⟨k + 1, by omega, by go_num, HN1⟩, by simp [RowKit.intOf]; omega⟩
    · have hke : k = 17 := by omega
      subst hke
      go_wp2
      go_ret
      exact ⟨u3, rfl, HI.out.own, HI.out.bel⟩
end Go.Proofs.Ytejidnmgjccidaa.R
end
section
namespace Go.Proofs.Ytejidnmgjccidaa.R
open Go.RowKit Go.Proofs.YtejidnmgjccidaaW.PrintWords Go.Proofs.YtejidnmgjccidaaW.PrintLast Go.Proofs.YtejidnmgjccidaaW.PrintMore
set_option linter.unusedVariables false
set_option linter.unusedSimpArgs false
set_option maxHeartbeats 16000000 in
set_option maxRecDepth 100000 in
theorem priority_Of.calls (A0 : Option Addr) (c0 : Nat) (l0 : List (S25)) (r : List (S25)) (w : World) (hr0 : Kd.C k25 w A0 l0.length l0) (hc0 : l0.length ≤ c0) (h : priority_Of.f l0 = some r) :
    Calls Try.prog 15 #[.slice A0 l0.length c0] w fun e w' => ∃ v0_ : Value, e = .returned (v0_) ∧ Kd.R k25 25 w' w.heap.size (fun _ => True) v0_ r ∧ Below w.heap.size w w' := by
  unfold priority_Of.f at h
  by_cases hl : okLen l0
  · rw [if_pos hl] at h
    obtain rfl := Option.some.inj h
    clear h
    have hl' : l0.length ≤ 1000 := hl
    have HR0 := Aside0.mk hr0
    clear hr0
    go_enter Try.func15, Try.ntmps15
    go_wp2_with (first | (go_at_call 33; (with_reducible refine (of_calls A0 c0 l0 _ HR0.out hc0 hl').mono ?_); rintro e w1 ⟨cs, rfl, ht, hb⟩; have HT := Aside0.mk ht; have HB := Aside0.mk hb; clear ht hb) | (go_at_call 34; (with_reducible refine (list_calls cs (tabOf l0) _ _ HT.out).mono ?_); rintro e w2 ⟨v, rfl, hv, hb⟩; have HV := Aside0.mk hv; have HB2 := Aside0.mk hb; clear hv hb))
    go_ret
    exact ⟨v, rfl, Kd.R_lower HV.out HB.out.size, below_step HB.out HB2.out⟩
  · rw [if_neg hl] at h
    cases h
end Go.Proofs.Ytejidnmgjccidaa.R
end
section
namespace Go.Proofs.Ytejidnmgjccidaa.R
open Go.RowKit Go.Proofs.YtejidnmgjccidaaW.PrintWords Go.Proofs.YtejidnmgjccidaaW.PrintLast Go.Proofs.YtejidnmgjccidaaW.PrintMore
set_option linter.unusedVariables false
set_option linter.unusedSimpArgs false
structure CatInv (w : World) (v : Value) (xs : List S25) (wr : World) : Prop where
  own : Kd.R k25 25 wr w.heap.size (fun _ => True) v xs
  bel : Below w.heap.size w wr
def GrowPost (w : World) (e : Ending) (w' : World) : Prop := ∃ v : Value, e = .returned v ∧ CatInv w v [] w'
def CatPost (w : World) (xs : List S25) (e : Ending) (w' : World) : Prop := ∃ v : Value, e = .returned v ∧ CatInv w v xs w'
set_option maxHeartbeats 16000000 in
set_option maxRecDepth 100000 in
theorem grow_calls (n : Nat) (w : World) (hn : n ≤ 1000) : Calls Try.prog 41 #[.slice none 0 0, .int .i64 (n : Int)] w fun e w' => GrowPost w e w' := by
  have HB := Aside0.mk (Below.refl w.heap.size w)
  have hb0 : decide ((n : Int) < 0) = false := decide_eq_false (by omega)
  by_cases hz : n = 0
  · subst hz
    clear hb0 hn
    go_enter Try.func41, Try.ntmps41
    go_wp2
    go_ret
    exact ⟨_, rfl, ⟨Kd.R_nil _ _ _ _ _, HB.out⟩⟩
  · have hp : 0 < n := by omega
    have hb1 : decide (0 < n) = true := decide_eq_true hp
    clear hz
    go_enter Try.func41, Try.ntmps41
    go_wp2_with (at_builtin; refine Kd.R_append_zeros k25 (w0 := w) w.heap.size rfl (.tmp 20) (.tmp 21) 26 3 25 (.agg #[(.int .i64 0), (.int .i64 0), (.int .i64 0), (.int .i64 0)]) 32 rfl Try.underlying26 Try.underlying3 info25 rfl (by decide) (by omega) (.slice none 0 0) [] z25 (n : Int) (fun _ => True) rfl rfl (k25_mkM _ _ _ z25) (fun _ _ => trivial) (Kd.R_nil _ _ _ _ _) (by omega) HB.out (Nat.le_refl _) (by simp; omega) ?_; intro v1 w9 ho hb hg hat; rw [List.nil_append] at ho; obtain ⟨A1, c1, e1⟩ := Kd.R_slice ho; subst e1; have HT := Aside0.mk (Kd.R_take (m := 0) ho (Nat.zero_le _)); have HB2 := Aside0.mk hb; clear ho hb hg hat)
    go_ret
    exact ⟨_, rfl, ⟨HT.out, HB2.out⟩⟩
set_option maxHeartbeats 16000000 in
set_option maxRecDepth 100000 in
theorem concat_calls (A0 : Option Addr) (c0 : Nat) (l0 : List S25) (A1 : Option Addr) (c1 : Nat) (l1 : List S25) (g : Nat) (w : World) (hg : w.heap[g]? = some (.cells #[.slice A0 l0.length c0, .slice A1 l1.length c1] 26 (0, 0)))
    (hr0 : Kd.C k25 w A0 l0.length l0) (hc0 : l0.length ≤ c0) (hr1 : Kd.C k25 w A1 l1.length l1) (hc1 : l1.length ≤ c1) (hn : l0.length + l1.length ≤ 1000) :
    Calls Try.prog 36 #[.slice (some ⟨g, 0, none⟩) 2 2] w fun e w' => CatPost w (l0 ++ l1) e w' := by
  have HR0 := Aside0.mk hr0
  have HR1 := Aside0.mk hr1
  have HG := Aside0.mk hg
  clear hr0 hr1 hg
  have z0 := (blk_cell HG.out 0).trans rfl
  have z1 := (blk_cell HG.out 1).trans rfl
  have hb0 : decide ((l0.length : Int) < 0) = false := decide_eq_false (by omega)
  have hb1 : decide ((l0.length : Int) + (l1.length : Int) < 0) = false := decide_eq_false (by omega)
  go_enter Try.func36, Try.ntmps36
  go_wp2
  go_loop [3, 11] (fun s i => (i = .int .i64 0 ∧ s = .int .i64 0) ∨ (i = .int .i64 1 ∧ s = .int .i64 (l0.length : Int)) ∨ (i = .int .i64 2 ∧ s = .int .i64 ((l0.length : Int) + (l1.length : Int)))) (fun _ i => 2 - (intOf i).toNat)
  case atStart => exact Or.inl ⟨rfl, rfl⟩
  case round =>
    rcases hrel with ⟨rfl, rfl⟩ | ⟨rfl, rfl⟩ | ⟨rfl, rfl⟩
    · go_wp2
      exact ⟨Or.inr (Or.inl ⟨rfl, by first | rfl | (simp; done)⟩), by simp [RowKit.intOf]⟩
    · go_wp2
      exact ⟨Or.inr (Or.inr ⟨rfl, by first | rfl | (simp; done)⟩), by simp [RowKit.intOf]⟩
    · clear hb0 hb1
      have HGr := Aside0.mk (fun W => grow_calls (l0.length + l1.length) W hn)
      have hcast := Aside0.mk (show ((l0.length : Int) + (l1.length : Int)) = ((l0.length + l1.length : Nat) : Int) by omega)
      go_wp2_with (go_at_call 41; rw [hcast.out]; (with_reducible refine (HGr.out _).mono ?_); rintro e w1 ⟨v, rfl, hv⟩; have HI0 := Aside0.mk hv; clear hv)
      clear hcast HGr
      go_loopw [6, 27] (fun v i wr => (i = .int .i64 0 ∧ Aside0 (CatInv w v [] wr)) ∨ (i = .int .i64 1 ∧ Aside0 (CatInv w v l0 wr)) ∨ (i = .int .i64 2 ∧ Aside0 (CatInv w v (l0 ++ l1) wr))) (fun _ i _ => 2 - (intOf i).toNat)
      case atStart => exact Or.inl ⟨rfl, HI0⟩
      case round =>
        clear HI0 z0 z1
        rcases hrel with ⟨rfl, HI⟩ | ⟨rfl, HI⟩ | ⟨rfl, HI⟩
        · have z0 := (blk_cell (blk_below HG.out HI.out.bel) 0).trans rfl
          go_wp2_with (at_builtin; refine Kd.R_append_rows k25 (w0 := w) w.heap.size rfl (.tmp 31) (.tmp 32) 26 25 (.agg #[(.int .i64 0), (.int .i64 0), (.int .i64 0), (.int .i64 0)]) 32 rfl Try.underlying26 info25 rfl (by decide) (by omega) u6 [] l0 _ _ _ (fun _ => True) (fun _ => False) rfl rfl HI.out.own (Kd.C_below HR0.out HI.out.bel) (fun _ _ h => h) (fun _ h => h.elim) (fun _ _ => trivial) HI.out.bel HI.out.bel.size (by first | omega | (simp; omega)) ?_; intro v1 w9 ho hb hg hat; have HN1 := Aside0.mk (CatInv.mk ho hb); clear ho hb hg hat; rw [List.nil_append] at HN1)
          exact ⟨Or.inr (Or.inl ⟨rfl, HN1⟩), by simp [RowKit.intOf]⟩
        · have z1 := (blk_cell (blk_below HG.out HI.out.bel) 1).trans rfl
          go_wp2_with (at_builtin; refine Kd.R_append_rows k25 (w0 := w) w.heap.size rfl (.tmp 31) (.tmp 32) 26 25 (.agg #[(.int .i64 0), (.int .i64 0), (.int .i64 0), (.int .i64 0)]) 32 rfl Try.underlying26 info25 rfl (by decide) (by omega) u6 l0 l1 _ _ _ (fun _ => True) (fun _ => False) rfl rfl HI.out.own (Kd.C_below HR1.out HI.out.bel) (fun _ _ h => h) (fun _ h => h.elim) (fun _ _ => trivial) HI.out.bel HI.out.bel.size (by first | omega | (simp; omega)) ?_; intro v1 w9 ho hb hg hat; have HN1 := Aside0.mk (CatInv.mk ho hb); clear ho hb hg hat)
          exact ⟨Or.inr (Or.inr ⟨rfl, HN1⟩), by simp [RowKit.intOf]⟩
        · go_wp2
          go_ret
          exact ⟨_, rfl, HI.out⟩
set_option maxHeartbeats 16000000 in
set_option maxRecDepth 100000 in
theorem priority_Join.calls (A0 : Option Addr) (c0 : Nat) (l0 : List (S25)) (A1 : Option Addr) (c1 : Nat) (l1 : List (S25)) (r : List (S25)) (w : World) (hr0 : Kd.C k25 w A0 l0.length l0) (hc0 : l0.length ≤ c0) (hr1 : Kd.C k25 w A1 l1.length l1) (hc1 : l1.length ≤ c1) (h : priority_Join.f l0 l1 = some r) :
    Calls Try.prog 17 #[.slice A0 l0.length c0, .slice A1 l1.length c1] w fun e w' => ∃ v0_ : Value, e = .returned (v0_) ∧ Kd.R k25 25 w' w.heap.size (fun _ => True) v0_ r ∧ Below w.heap.size w w' := by
  unfold priority_Join.f at h
  by_cases hl : okLen (l0 ++ l1)
  · rw [if_pos hl] at h
    obtain rfl := Option.some.inj h
    clear h
    have hl' : l0.length + l1.length ≤ 1000 := by
      have : (l0 ++ l1).length ≤ 1000 := hl
      simpa using this
    have HOf := Aside0.mk (show priority_Of.f (l0 ++ l1) = some (listOf (tabOf (l0 ++ l1))) from if_pos hl)
    clear hl
    obtain ⟨ls, HLs⟩ : ∃ ls, Aside0 (l0 ++ l1 = ls) := ⟨_, ⟨rfl⟩⟩
    rw [HLs.out] at HOf
    rw [HLs.out]
    have HR0 := Aside0.mk hr0
    have HR1 := Aside0.mk hr1
    have HC0 := Aside0.mk hc0
    have HC1 := Aside0.mk hc1
    clear hr0 hr1 hc0 hc1
    go_enter Try.func17, Try.ntmps17
    go_wp2_with (first | (go_at_call 36; have hbx := Aside0.mk (blk_new w (.cells #[.slice A0 l0.length c0, .slice A1 l1.length c1] 26 (0, 0))); have hb0 := Aside0.mk (below_alloc (Below.refl w.heap.size w) (.cells #[.slice A0 l0.length c0, .slice A1 l1.length c1] 26 (0, 0))); (with_reducible refine (concat_calls A0 c0 l0 A1 c1 l1 w.heap.size _ hbx.out (Kd.C_below HR0.out hb0.out) HC0.out (Kd.C_below HR1.out hb0.out) HC1.out hl').mono ?_); rintro e w1 ⟨v, rfl, hv⟩; rw [HLs.out] at hv; obtain ⟨A2, c2, e2⟩ := Kd.R_slice hv.own; subst e2; have HV := Aside0.mk hv; have HB := Aside0.mk (below_step hb0.out hv.bel); clear hv hbx hb0) | (go_at_call 15; (with_reducible refine (priority_Of.calls _ _ ls _ _ (Kd.R_reads' HV.out.own).2.2 (Kd.R_reads' HV.out.own).2.1 HOf.out).mono ?_); rintro e w2 ⟨v2, rfl, hv2, hb2⟩; have HV2 := Aside0.mk hv2; have HB2 := Aside0.mk hb2; clear hv2 hb2))
    go_ret
    exact ⟨v2, rfl, Kd.R_lower HV2.out HB.out.size, below_step HB.out HB2.out⟩
  · rw [if_neg hl] at h
    cases h
end Go.Proofs.Ytejidnmgjccidaa.R
end
section
namespace Go.Proofs.Ytejidnmgjccidaa.R
open Go.RowKit Go.Proofs.YtejidnmgjccidaaW.PrintWords Go.Proofs.YtejidnmgjccidaaW.PrintLast Go.Proofs.YtejidnmgjccidaaW.PrintMore
set_option linter.unusedVariables false
set_option linter.unusedSimpArgs false
theorem level_1 (n m : Int) (h : n < m ∨ n > 16) : priority_level.f n m = some 1 := by
  unfold priority_level.f
  by_cases c : n < m
  · rw [if_pos c]
  · rw [if_neg c, if_pos (by omega)]
theorem level_0 (n m : Int) (h : ¬ (n < m ∨ n > 16)) : priority_level.f n m = some 0 := by
  unfold priority_level.f
  rw [if_neg (by omega), if_neg (by omega)]
end Go.Proofs.Ytejidnmgjccidaa.R
end
section
namespace Go.Proofs.Ytejidnmgjccidaa.R
open Go.RowKit Go.Proofs.YtejidnmgjccidaaW.PrintWords Go.Proofs.YtejidnmgjccidaaW.PrintLast Go.Proofs.YtejidnmgjccidaaW.PrintMore
attribute [local go_sem] max2_int min2_int max_two min_two max_three min_three max_four min_four
set_option linter.unusedVariables false
set_option linter.unusedSimpArgs false
def slices_Index_int_int.l0 : Nat → List Int → Int → Int → Int → Option (Int)
  | 0, _, _, _, _ => none
  | k + 1, x0, x1, x7, x8 => if x8 < x7 then (if 0 ≤ x8 then (if x8 < (x0.length : Int) then (if x1 = (rd x0 x8) then (some x8) else (slices_Index_int_int.l0 k x0 x1 x7 (wrap64 (x8 + 1)))) else (none)) else (none)) else (some (-1))
def slices_Index_int_int.f (k : Nat) (l0 : List Int) (a1 : Int) : Option (Int) := slices_Index_int_int.l0 k l0 a1 (l0.length : Int) 0
set_option maxHeartbeats 8000000 in
set_option maxRecDepth 100000 in
theorem slices_Index_int_int.calls (k : Nat) (A0 : Option Addr) (c0 : Nat) (l0 : List Int) (a1 : Int) (r : Int) (w : World) (hr0 : Kd.C (Kd.int .i64) w A0 l0.length l0) (hc0 : l0.length ≤ c0) (h : slices_Index_int_int.f k l0 a1 = some r) :
    Calls Try.prog 42 #[.slice A0 l0.length c0, .int .i64 a1] w fun e w' => e = .returned (.int .i64 r) ∧ Drawn0 w w' := by
  have HR0 := Aside0.mk hr0
  have HC0 := Aside0.mk hc0
  clear hr0 hc0
  have H : (slices_Index_int_int.l0 k l0 a1 (l0.length : Int) 0) = some r := h
  clear h
  have H' := Aside0.mk H
  clear H
  go_enter Try.func42, Try.ntmps42
  go_wp2
  go_loopg [8] k (fun kq v8 w' => ∃ (x8_1 : Int), v8 = .int .i64 x8_1 ∧ Aside0 (slices_Index_int_int.l0 kq l0 a1 (l0.length : Int) x8_1 = some r) ∧ Aside0 (kq ≤ k) ∧ Drawn0 w w')
  case atStart => exact ⟨(0), (by first | rfl | (simp; done) | (simp [*]; done)), H', ⟨Nat.le_refl _⟩, by repeat (first | exact Drawn0.refl _ | apply Drawn0.step)⟩
  case round =>
    clear H'
    try clear p2
    obtain ⟨x8_1, rfl, HA, HK1, ⟨m1, rfl⟩⟩ := hrel
    cases gk with
    | zero => exact absurd HA.out (by simp [slices_Index_int_int.l0])
    | succ k1 =>
      have H := HA.out
      clear HA
      simp only [slices_Index_int_int.l0] at H
      by_cases c3 : x8_1 < (l0.length : Int)
      · rw [if_pos c3] at H
        have c3b0 : decide (x8_1 < (l0.length : Int)) = true := decide_eq_true c3
        clear c3
        by_cases c4 : 0 ≤ x8_1
        · rw [if_pos c4] at H
          have c4b0 : decide (0 ≤ x8_1) = true := decide_eq_true c4
          clear c4
          by_cases c5 : x8_1 < (l0.length : Int)
          · rw [if_pos c5] at H
            have c5b0 : decide (x8_1 < (l0.length : Int)) = true := decide_eq_true c5
            clear c5
            by_cases c6 : a1 = (rd l0 x8_1)
            · rw [if_pos c6] at H
              have c6b0 : (a1 == (rd l0 x8_1)) = true := beq_iff_eq.mpr c6
              have c6b1 : (a1 != (rd l0 x8_1)) = false := bne_eq_false_iff_eq.mpr c6
              clear c6
              obtain rfl := Option.some.inj H
              have p120 : 0 ≤ (x8_1 : Int) := of_decide_eq_true (by first | (with_reducible assumption) | assumption)
              have q120 : x8_1 < (l0.length : Int) := of_decide_eq_true (by first | (with_reducible assumption) | assumption)
              obtain ⟨ad120, e120, hx120_0⟩ := Kd.at_int HR0.out x8_1 p120 q120
              cases e120
              replace p120 := eq_true p120
              replace q120 := eq_true q120
              go_wp2
              go_ret
              exact ⟨by first | rfl | (simp; done) | (simp [*]; done), by repeat (first | exact Drawn0.refl _ | apply Drawn0.step)⟩
            · rw [if_neg c6] at H
              have c6b0 : (a1 == (rd l0 x8_1)) = false := beq_eq_false_iff_ne.mpr c6
              have c6b1 : (a1 != (rd l0 x8_1)) = true := bne_iff_ne.mpr c6
              have H' := Aside0.mk H
              clear H
              have p120 : 0 ≤ (x8_1 : Int) := of_decide_eq_true (by first | (with_reducible assumption) | assumption)
              have q120 : x8_1 < (l0.length : Int) := of_decide_eq_true (by first | (with_reducible assumption) | assumption)
              obtain ⟨ad120, e120, hx120_0⟩ := Kd.at_int HR0.out x8_1 p120 q120
              cases e120
              replace p120 := eq_true p120
              replace q120 := eq_true q120
              go_wp2
              go_roundg k1
              case measure => have := HK1.out; omega
              case rel => exact ⟨(wrap64 (x8_1 + 1)), (by first | rfl | (simp; done) | (simp [*]; done)), H', ⟨by have := HK1.out; omega⟩, by repeat (first | exact Drawn0.refl _ | apply Drawn0.step)⟩
          · rw [if_neg c5] at H
            exact absurd H (by simp)
        · rw [if_neg c4] at H
          exact absurd H (by simp)
      · rw [if_neg c3] at H
        have c3b0 : decide (x8_1 < (l0.length : Int)) = false := decide_eq_false c3
        clear c3
        obtain rfl := Option.some.inj H
        go_wp2
        go_ret
        exact ⟨by first | rfl | (simp; done) | (simp [*]; done), by repeat (first | exact Drawn0.refl _ | apply Drawn0.step)⟩
end Go.Proofs.Ytejidnmgjccidaa.R
end
section
namespace Go.Proofs.Ytejidnmgjccidaa.R
open Go.RowKit Go.Proofs.YtejidnmgjccidaaW.PrintWords Go.Proofs.YtejidnmgjccidaaW.PrintLast Go.Proofs.YtejidnmgjccidaaW.PrintMore
attribute [local go_sem] max2_int min2_int max_two min_two max_three min_three max_four min_four
set_option linter.unusedVariables false
set_option linter.unusedSimpArgs false
def slices_Contains_int_int.f (k : Nat) (l0 : List Int) (a1 : Int) : Option (Bool) := (slices_Index_int_int.f k l0 a1).bind fun t121 => (some (decide (t121 ≥ 0)))
set_option maxHeartbeats 8000000 in
set_option maxRecDepth 100000 in
theorem slices_Contains_int_int.calls (k : Nat) (A0 : Option Addr) (c0 : Nat) (l0 : List Int) (a1 : Int) (r : Bool) (w : World) (hr0 : Kd.C (Kd.int .i64) w A0 l0.length l0) (hc0 : l0.length ≤ c0) (h : slices_Contains_int_int.f k l0 a1 = some r) :
    Calls Try.prog 37 #[.slice A0 l0.length c0, .int .i64 a1] w fun e w' => e = .returned (.bool r) ∧ Drawn0 w w' := by
  have HR0 := Aside0.mk hr0
  have HC0 := Aside0.mk hc0
  clear hr0 hc0
  have H : ((slices_Index_int_int.f k l0 a1).bind fun t121 => (some (decide (t121 ≥ 0)))) = some r := h
  clear h
  replace H := Option.bind_eq_some_iff.mp H
  obtain ⟨t121, A30, H⟩ := H
  replace H : (some (decide (t121 ≥ 0))) = some r := H
  have A3 := Aside0.mk A30
  clear A30
  obtain rfl := Option.some.inj H
  go_enter Try.func37, Try.ntmps37
  go_wp2_with (first | ((with_reducible refine gate_callee (f := 42) rfl ?_); refine goesL_ (some 7) rfl rfl Try.func42 (by kernel_rfl) rfl #[.slice A0 l0.length c0, .int .i64 a1] rfl (by (try simp only [List.map_toArray, List.map_cons, List.map_nil]); first | done | rfl | (simp only [List.length_drop, List.length_take]; rfl)) ?_; (with_reducible refine (slices_Index_int_int.calls k _ _ l0 a1 t121 _ ?side1 ?side2 A3.out).mono ?_); (case side1 => repeat (first | exact HR0.out | (with_reducible refine Kd.C_alloc ?_ _) | (with_reducible refine Kd.C_drewN ?_ _) | (with_reducible refine Kd.C_drew ?_))); (case side2 => exact HC0.out); rintro e w' ⟨rfl, ⟨nd, rfl⟩⟩; refine ⟨_, rfl, ?_⟩))
  go_ret
  exact ⟨by first | rfl | (simp; done) | (simp [*]; done), by repeat (first | exact Drawn0.refl _ | apply Drawn0.step)⟩
end Go.Proofs.Ytejidnmgjccidaa.R
end
section
namespace Go.Proofs.Ytejidnmgjccidaa.R
open Go.RowKit Go.Proofs.YtejidnmgjccidaaW.PrintWords Go.Proofs.YtejidnmgjccidaaW.PrintLast Go.Proofs.YtejidnmgjccidaaW.PrintMore
set_option linter.unusedVariables false
set_option linter.unusedSimpArgs false
theorem fm_congr {α β : Type} {f g : α → Option β} : ∀ l : List α, (∀ x ∈ l, f x = g x) → l.filterMap f = l.filterMap g := by
  intro l
  induction l with
  | nil => intro _; rfl
  | cons a l ih =>
    intro h
    rw [List.filterMap_cons, List.filterMap_cons, h a (by simp), ih (fun x hx => h x (by simp [hx]))]
theorem idx_loop (l : List Int) (x : Int) (hl : l.length ≤ 1000) : ∀ (d i k : Nat), i + d = l.length → slices_Index_int_int.l0 (k + d + 1) l x (l.length : Int) (i : Int) = some (if (l.drop i).contains x = true then ((i + (l.drop i).idxOf x : Nat) : Int) else -1) := by
  intro d
  induction d with
  | zero =>
    intro i k hi
    rw [show k + 0 + 1 = k + 1 by omega, slices_Index_int_int.l0, if_neg (by omega), List.drop_of_length_le (by omega)]
    rfl
  | succ d ih =>
    intro i k hi
    have hlt : i < l.length := by omega
    have hd : l.drop i = rd l (i : Int) :: l.drop (i + 1) := by
      rw [List.drop_eq_getElem_cons hlt]
      simp [rd, List.getD_eq_getElem?_getD, List.getElem?_eq_getElem hlt]
    rw [show k + (d + 1) + 1 = (k + d + 1) + 1 by omega, slices_Index_int_int.l0, if_pos (by omega), if_pos (by omega), if_pos (by omega), hd]
    by_cases e : x = rd l (i : Int)
    · rw [if_pos e, ← e, if_pos (by simp)]
      simp
    · rw [if_neg e]
      have hw : wrap64 ((i : Int) + 1) = ((i + 1 : Nat) : Int) := by unfold wrap64; omega
      rw [hw, ih (i + 1) k (by omega)]
      have hc : (rd l (i : Int) :: l.drop (i + 1)).contains x = (l.drop (i + 1)).contains x := by
        rw [List.contains_cons]
        simp [e]
      rw [hc]
      have hi2 : (rd l (i : Int) :: l.drop (i + 1)).idxOf x = (l.drop (i + 1)).idxOf x + 1 := by
        rw [List.idxOf_cons, show (rd l (i : Int) == x) = false by simpa using fun h : rd l (i : Int) = x => e h.symm]
        rfl
      rw [hi2]
      split
      · congr 2
        omega
      · rfl
theorem has_eq (l : List Int) (x : Int) (hl : l.length ≤ 1000) : slices_Contains_int_int.f 1001 l x = some (l.contains x) := by
  unfold slices_Contains_int_int.f slices_Index_int_int.f
  have := idx_loop l x hl l.length 0 (1000 - l.length) (by omega)
  rw [show 1000 - l.length + l.length + 1 = 1001 by omega, List.drop_zero] at this
  rw [show ((0 : Nat) : Int) = 0 from rfl] at this
  rw [this, Option.bind_some]
  cases h : l.contains x
  · rfl
  · simp
structure KeepInv (l0 : List S25) (l1 : List Int) (w : World) (g5 : Nat) (k : Nat) (wr : World) : Prop where
  b5 : ∃ cs, wr.heap[g5]? = some (.cells cs 56 (0, 0)) ∧ Tab wr w.heap.size cs (fun n => if n < k ∧ l1.contains (n : Int) = false then none else tabOf l0 n)
  bel : Below w.heap.size w wr
theorem KeepInv.drewN {l0 : List S25} {l1 : List Int} {w wr : World} {g5 k : Nat} (h : KeepInv l0 l1 w g5 k wr) (n : Nat) : KeepInv l0 l1 w g5 k (wr.drewN n) := by
  obtain ⟨cs, h5, ht⟩ := h.b5
  exact ⟨⟨cs, blk_drewN h5 n, ht.kept (fun _ _ _ => rfl)⟩, pw_below_drewN h.bel n⟩
theorem KeepInv.stay {l0 : List S25} {l1 : List Int} {w wr : World} {g5 k : Nat} (h : KeepInv l0 l1 w g5 k wr) (hc : l1.contains (k : Int) = true) : KeepInv l0 l1 w g5 (k + 1) wr := by
  obtain ⟨cs, h5, ht⟩ := h.b5
  refine ⟨⟨cs, h5, ?_⟩, h.bel⟩
  have e : (fun n : Nat => if n < k + 1 ∧ l1.contains (n : Int) = false then none else tabOf l0 n) = (fun n : Nat => if n < k ∧ l1.contains (n : Int) = false then none else tabOf l0 n) := by
    funext n
    by_cases hn : n = k
    · subst hn
      rw [hc]
      simp
    · by_cases a : n < k
      · simp [a, show n < k + 1 by omega]
      · simp [a, show ¬ n < k + 1 by omega]
  rw [e]
  exact ht
theorem KeepInv.drop {l0 : List S25} {l1 : List Int} {w wr : World} {g5 k : Nat} (h : KeepInv l0 l1 w g5 k wr) (hg : w.heap.size ≤ g5) (hk : k < 17) (hc : l1.contains (k : Int) = false) : KeepInv l0 l1 w g5 (k + 1) (wr.setCell ⟨g5, k, none⟩ (.pointer none)) := by
  obtain ⟨cs, h5, ht⟩ := h.b5
  have hT : Tab (wr.setCell ⟨g5, k, none⟩ (.pointer none)) w.heap.size cs (fun n => if n < k ∧ l1.contains (n : Int) = false then none else tabOf l0 n) := by
    refine ⟨ht.1, fun j hj => ?_⟩
    have hpj := ht.2 j hj
    generalize (fun n : Nat => if n < k ∧ l1.contains (n : Int) = false then none else tabOf l0 n) j = oo at hpj ⊢
    cases oo with
    | none => exact hpj
    | some y =>
      obtain ⟨g, e, hB, hy⟩ := hpj
      exact ⟨g, e, hB, blk_far hy (blk_ne hy h5 (by decide)) _⟩
  refine ⟨⟨_, blk_put h5 _ _ rfl, ?_⟩, below_set h.bel hg⟩
  refine hT.set k _ (fun _ => ?_) (fun n hn => ?_)
  · rw [if_pos ⟨Nat.lt_succ_self k, hc⟩]
    exact rfl
  · by_cases a : n < k
    · simp [a, show n < k + 1 by omega]
    · simp [a, show ¬ n < k + 1 by omega]
set_option maxHeartbeats 16000000 in
set_option maxRecDepth 100000 in
theorem priority_Keep.calls (A0 : Option Addr) (c0 : Nat) (l0 : List (S25)) (A1 : Option Addr) (c1 : Nat) (l1 : List Int) (r : List (S25)) (w : World) (hr0 : Kd.C k25 w A0 l0.length l0) (hc0 : l0.length ≤ c0) (hr1 : Kd.C (Kd.int .i64) w A1 l1.length l1) (hc1 : l1.length ≤ c1) (h : priority_Keep.f l0 l1 = some r) :
    Calls Try.prog 19 #[.slice A0 l0.length c0, .slice A1 l1.length c1] w fun e w' => ∃ v0_ : Value, e = .returned (v0_) ∧ Kd.R k25 25 w' w.heap.size (fun _ => True) v0_ r ∧ Below w.heap.size w w' := by
  unfold priority_Keep.f at h
  by_cases hl : okLen l0 ∧ l1.length ≤ 1000
  · rw [if_pos hl] at h
    obtain rfl := Option.some.inj h
    clear h
    have hl' : l0.length ≤ 1000 := hl.1
    have HC1 := Aside0.mk hc1
    have HL1 := Aside0.mk (fun x => has_eq l1 x hl.2)
    clear hl hc1
    have HR0 := Aside0.mk hr0
    have HR1 := Aside0.mk hr1
    clear hr0 hr1
    go_enter Try.func19, Try.ntmps19
    go_wp2_with (first | (go_at_call 33; (with_reducible refine (of_calls A0 c0 l0 _ HR0.out hc0 hl').mono ?_); rintro e w1 ⟨cs, rfl, ht, hb⟩; have HT := Aside0.mk ht; have HB := Aside0.mk hb; clear ht hb) | ((with_reducible refine gate_dst (N := 5) rfl ?_); refine box_event ?hg (N := 5) ?hd (cs := nils) (t := 56) ?hr ?_; (case hd => rfl); (case hg => rfl); (case hr => first | (go_simp; done) | (go_simp; rfl)); intro g5 hg W5 hbox hb; have GE5 := Aside0.mk ((by rw [hg]; exact HB.out.size) : w.heap.size ≤ g5); have BK5 := Aside0.mk hbox; have n0 := Aside0.mk (HT.out.below hb); have n1 := Aside0.mk (below_step HB.out hb); clear HB HT; have HB := n1; have HT := n0; clear n0 n1; clear hb hbox hg) | (refine wpList_store_row rfl 56 (.tmp 5) (.tmp 8) rfl g5 cs rfl rfl 56 nils BK5.out (by rw [HT.out.1]; kernel_rfl) HT.out.1.symm HT.out.one ?_))
    have HI0 : Aside0 (KeepInv l0 l1 w g5 0 (W5.setRow g5 cs)) := ⟨⟨cs, setRow_heap _ _ _ _ _ _ BK5.out, by
      have e : (fun n : Nat => if n < 0 ∧ l1.contains (n : Int) = false then none else tabOf l0 n) = tabOf l0 := by
        funext n
        simp
      rw [e]
      refine ⟨HT.out.1, fun j hj => ?_⟩
      have hpj := HT.out.2 j hj
      cases ho : tabOf l0 j with
      | none => rw [ho] at hpj; exact hpj
      | some y =>
        rw [ho] at hpj
        obtain ⟨g, e, hB, hy⟩ := hpj
        exact ⟨g, e, hB, (setRow_other _ g5 g cs (blk_ne hy BK5.out (by decide))).trans hy⟩⟩, below_setRow HB.out GE5.out _⟩
    clear BK5 HT HB
    generalize W5.setRow g5 cs = W at *
    go_loopw [9] (fun v wr => ∃ k : Nat, k ≤ 17 ∧ v = .int .i64 k ∧ Aside0 (KeepInv l0 l1 w g5 k wr)) (fun v _ => 17 - (intOf v).toNat)
    case atStart => exact ⟨0, Nat.zero_le _, rfl, HI0⟩
    case round =>
      clear HI0
      obtain ⟨k, hk, rfl, HI⟩ := hrel
      by_cases hlt : k < 17
      · cases hc : l1.contains (k : Int) with
        | true =>
          have HC := Aside0.mk ((HL1.out (k : Int)).trans (by rw [hc]))
          have HN := Aside0.mk (fun n => (HI.out.drewN n).stay hc)
          clear hc
          go_wp2_with (go_at_call 37; (with_reducible refine (slices_Contains_int_int.calls 1001 A1 c1 l1 (k : Int) true _ (Kd.C_below HR1.out HI.out.bel) HC1.out HC.out).mono ?_); rintro e W ⟨rfl, ⟨nd, rfl⟩⟩)
          refine ⟨⟨k + 1, by omega, by go_num, ⟨HN.out nd⟩⟩, by simp [RowKit.intOf]; omega⟩
        | false =>
          have HC := Aside0.mk ((HL1.out (k : Int)).trans (by rw [hc]))
          have HN := Aside0.mk (fun n => (HI.out.drewN n).drop GE5.out hlt hc)
          clear hc
          obtain ⟨cs', h5, ht⟩ := HI.out.b5
          have hcl : wr.cell? ⟨g5, k, none⟩ = some (cs'.getD k undef) := by
            rw [blk_cell h5 k]
            simp [Array.getD, ht.1, hlt]
          have hfz := blk_frozen h5 k
          clear h5 ht
          go_wp2_with (go_at_call 37; (with_reducible refine (slices_Contains_int_int.calls 1001 A1 c1 l1 (k : Int) false _ (Kd.C_below HR1.out HI.out.bel) HC1.out HC.out).mono ?_); rintro e W ⟨rfl, ⟨nd, rfl⟩⟩)
          refine ⟨⟨k + 1, by omega, by go_num, ⟨HN.out nd⟩⟩, by simp [RowKit.intOf]; omega⟩
      · have hke : k = 17 := by omega
        subst hke
        obtain ⟨cs', h5, ht⟩ := HI.out.b5
        have e : listOf (fun n : Nat => if n < 17 ∧ l1.contains (n : Int) = false then none else tabOf l0 n) = listOf (fun n => if l1.contains (n : Int) = true then tabOf l0 n else none) := by
          unfold listOf
          refine fm_congr _ (fun n hn => ?_)
          have hn' : n < 17 := List.mem_range.mp hn
          cases l1.contains (n : Int) <;> simp [hn']
        have HE := Aside0.mk e
        have H5 := Aside0.mk h5
        have HT := Aside0.mk ht
        clear h5 ht e
        go_wp2_with (first | (refine wpList_load_row rfl 56 (.tmp 5) rfl g5 rfl 56 cs' (0, 0) (.array 17 54) H5.out (by kernel_rfl) rfl (by rw [HT.out.1]; kernel_rfl) ?_) | (go_at_call 34; (with_reducible refine (list_calls cs' _ _ _ HT.out).mono ?_); rintro e w2 ⟨v, rfl, hv, hb⟩; have HV := Aside0.mk hv; have HB2 := Aside0.mk hb; clear hv hb))
        go_ret
        exact ⟨v, rfl, by rw [← HE.out]; exact Kd.R_lower HV.out HI.out.bel.size, below_step HI.out.bel HB2.out⟩
  · rw [if_neg hl] at h
    cases h
end Go.Proofs.Ytejidnmgjccidaa.R
end
section
namespace Go.Proofs.Ytejidnmgjccidaa.R
open Go.RowKit Go.Proofs.YtejidnmgjccidaaW.PrintWords Go.Proofs.YtejidnmgjccidaaW.PrintLast Go.Proofs.YtejidnmgjccidaaW.PrintMore
set_option linter.unusedVariables false
set_option linter.unusedSimpArgs false
theorem chk_seq {x : S25} (h : chk x = 0) : 1 ≤ x.f1 ∧ x.f1 ≤ 1000000000 := by
  unfold chk at h
  by_cases c : x.f0 < 1 ∨ x.f0 > 16
  · rw [if_pos c] at h; omega
  · rw [if_neg c] at h
    by_cases c2 : x.f1 < 1 ∨ x.f1 > 1000000000
    · rw [if_pos c2] at h; omega
    · omega
theorem foldl_ok (l : List S25) : ∀ (t : Tb), (∀ n x, t n = some x → chk x = 0 ∧ x.f0.toNat = n) → ∀ n x, l.foldl put1 t n = some x → chk x = 0 ∧ x.f0.toNat = n := by
  induction l with
  | nil => intro t h; exact h
  | cons a l ih =>
    intro t h
    refine ih _ (fun n x hx => ?_)
    unfold put1 at hx
    split at hx
    · rename_i hc
      obtain rfl := Option.some.inj hx
      exact ⟨hc.2.1, hc.1.symm⟩
    · exact h n x hx
theorem tab_ok (l : List S25) (n : Nat) (x : S25) (h : tabOf l n = some x) : chk x = 0 ∧ x.f0.toNat = n := foldl_ok l _ (fun _ _ h => by cases h) n x h
theorem Tab.far {w : World} {B g j : Nat} {cs cs' : Array Value} {t : Tb} {T : TypeId} {v : Value} (h : Tab w B cs t) (hg : ∀ k, k < 17 → ∀ y, t k = some y → ∀ gy, cs.getD k undef = .pointer (some ⟨gy, 0, none⟩) → gy ≠ g) : Tab (w.setCell ⟨g, j, none⟩ v) B cs t := by
  refine ⟨h.1, fun k hk => ?_⟩
  have hpj := h.2 k hk
  cases ho : t k with
  | none => rw [ho] at hpj; exact hpj
  | some y =>
    rw [ho] at hpj
    obtain ⟨gy, e, hB, hy⟩ := hpj
    exact ⟨gy, e, hB, blk_far hy (hg k hk y ho gy e) _⟩
theorem Tab.apart {w : World} {B g : Nat} {cs cells : Array Value} {t : Tb} {T : TypeId} (h : Tab w B cs t) (hb : w.heap[g]? = some (.cells cells T (0, 0))) (hT : (25 : TypeId) ≠ T) : ∀ k, k < 17 → ∀ y, t k = some y → ∀ gy, cs.getD k undef = .pointer (some ⟨gy, 0, none⟩) → gy ≠ g := by
  intro k hk y ho gy e
  have hpj := h.2 k hk
  rw [ho] at hpj
  obtain ⟨gy', e', hB, hy⟩ := hpj
  rw [e] at e'
  have : gy = gy' := by
    injection e' with e'
    injection e' with e'
    injection e' with e'
  subst this
  exact blk_ne hy hb hT
theorem Tab.fresh {w W : World} {B g : Nat} {cs : Array Value} {t : Tb} (h : Tab w B cs t) (hg : w.heap.size ≤ g) : ∀ k, k < 17 → ∀ y, t k = some y → ∀ gy, cs.getD k undef = .pointer (some ⟨gy, 0, none⟩) → gy ≠ g := by
  intro k hk y ho gy e
  have hpj := h.2 k hk
  rw [ho] at hpj
  obtain ⟨gy', e', hB, hy⟩ := hpj
  rw [e] at e'
  have : gy = gy' := by
    injection e' with e'
    injection e' with e'
    injection e' with e'
  subst this
  have := blk_lt hy
  omega
structure PutFacts (l0 : List S25) (w : World) (cs : Array Value) (g9 g10 : Nat) (cells : Array Value) (W : World) : Prop where
  b9 : W.heap[g9]? = some (.cells cs 56 (0, 0))
  tab : Tab W w.heap.size cs (tabOf l0)
  b10 : W.heap[g10]? = some (.cells cells 25 (0, 0))
  ne : ∀ k, k < 17 → ∀ y, tabOf l0 k = some y → ∀ gy, cs.getD k undef = .pointer (some ⟨gy, 0, none⟩) → gy ≠ g10
  bel : Below w.heap.size w W
  l9 : w.heap.size ≤ g9
  l10 : w.heap.size ≤ g10
theorem PutFacts.one {l0 : List S25} {w W : World} {cs : Array Value} {g9 g10 : Nat} {cells : Array Value} (h : PutFacts l0 w cs g9 g10 cells W) (j : Nat) (v : Value) : PutFacts l0 w cs g9 g10 (cells.setIfInBounds j v) (W.setCell ⟨g10, j, none⟩ v) :=
  ⟨blk_far h.b9 (blk_ne h.b9 h.b10 (by decide)) _, h.tab.far (T := 25) (cs' := cs) h.ne, blk_put h.b10 _ _ rfl, h.ne, below_set h.bel h.l10, h.l9, h.l10⟩
theorem PutFacts.two {l0 : List S25} {w W : World} {cs : Array Value} {g9 g10 n : Nat} {x : S25} (h : PutFacts l0 w cs g9 g10 (cellsW x) W) (hn : n < 17) :
    (W.setCell ⟨g9, n, none⟩ (.pointer (some ⟨g10, 0, none⟩))).heap[g9]? = some (.cells (cs.setIfInBounds n (.pointer (some ⟨g10, 0, none⟩))) 56 (0, 0)) ∧ Tab (W.setCell ⟨g9, n, none⟩ (.pointer (some ⟨g10, 0, none⟩))) w.heap.size (cs.setIfInBounds n (.pointer (some ⟨g10, 0, none⟩))) (fun m => if m = n then some x else tabOf l0 m) ∧ Below w.heap.size w (W.setCell ⟨g9, n, none⟩ (.pointer (some ⟨g10, 0, none⟩))) := by
  refine ⟨blk_put h.b9 _ _ rfl, ?_, below_set h.bel h.l9⟩
  refine Tab.set (t := tabOf l0) (h.tab.far (T := 56) (cs' := cs) (h.tab.apart h.b9 (by decide))) n _ (fun _ => ?_) (fun k hk => if_neg hk)
  rw [if_pos rfl]
  exact ⟨g10, rfl, h.l10, blk_far h.b10 (blk_ne h.b10 h.b9 (by decide)) _⟩
theorem Tab.setRowF {w : World} {B g : Nat} {cs : Array Value} {t : Tb} (h : Tab w B cs t) (cells : Array Value) (hg : ∀ k, k < 17 → ∀ y, t k = some y → ∀ gy, cs.getD k undef = .pointer (some ⟨gy, 0, none⟩) → gy ≠ g) : Tab (w.setRow g cells) B cs t := by
  refine ⟨h.1, fun k hk => ?_⟩
  have hpj := h.2 k hk
  cases ho : t k with
  | none => rw [ho] at hpj; exact hpj
  | some y =>
    rw [ho] at hpj
    obtain ⟨gy, e, hB, hy⟩ := hpj
    exact ⟨gy, e, hB, (setRow_other _ g gy cells (hg k hk y ho gy e)).trans hy⟩
theorem Tab.setRow {w : World} {B g : Nat} {cs old : Array Value} {t : Tb} {T : TypeId} (h : Tab w B cs t) (cells : Array Value) (hb : w.heap[g]? = some (.cells old T (0, 0))) (hT : (25 : TypeId) ≠ T) : Tab (w.setRow g cells) B cs t := h.setRowF cells (h.apart hb hT)
set_option maxHeartbeats 16000000 in
set_option maxRecDepth 100000 in
theorem priority_Put.calls (A0 : Option Addr) (c0 : Nat) (l0 : List (S25)) (a1 : Int) (a2_0 : Int) (a2_1 : Int) (r1 : List (S25)) (r2 : Int) (w : World) (hr0 : Kd.C k25 w A0 l0.length l0) (hc0 : l0.length ≤ c0) (h : priority_Put.f l0 a1 a2_0 a2_1 = some (r1, r2)) :
    Calls Try.prog 27 #[.slice A0 l0.length c0, .int .i64 a1, .agg #[.int .i64 a2_0, .int .i64 a2_1]] w fun e w' => ∃ v0_ : Value, e = .returned (.tuple #[v0_, .int .i64 r2]) ∧ Kd.R k25 25 w' w.heap.size (fun _ => True) v0_ r1 ∧ Below w.heap.size w w' := by
  unfold priority_Put.f at h
  by_cases hl : okLen l0
  · rw [if_pos hl] at h
    have hl' : l0.length ≤ 1000 := hl
    clear hl
    have HR0 := Aside0.mk hr0
    clear hr0
    have HB := Aside0.mk (Below.refl w.heap.size w)
    by_cases hc : a1 < 1 ∨ a1 > 16
    · rw [if_pos hc] at h
      simp only [Option.some.injEq, Prod.mk.injEq] at h
      obtain ⟨rfl, rfl⟩ := h
      have HL := Aside0.mk (level_1 a1 1 hc)
      clear hc
      go_enter Try.func27, Try.ntmps27
      go_wp2_with (first | ((with_reducible refine gate_dst (N := 5) rfl ?_); refine box_event ?hg (N := 5) ?hd (cs := #[.int .i64 a2_0, .int .i64 a2_1]) (t := 23) ?hr ?_; (case hd => rfl); (case hg => rfl); (case hr => first | (go_simp; done) | (go_simp; rfl)); intro g5 hg W5 hbox hb; have HRW := Aside0.mk (Kd.C_below HR0.out hb); have BK5 := Aside0.mk hbox; have n1 := Aside0.mk (below_step HB.out hb); clear HB; have HB := n1; clear n1; have y0 := (blk_cell BK5.out 0).trans rfl; have y1 := (blk_cell BK5.out 1).trans rfl; clear hb hbox hg) | (go_at_call 30; (with_reducible refine (priority_level.calls _ 1 1 _ HL.out).mono ?_); rintro e W ⟨rfl, ⟨nd, rfl⟩⟩; have n1 := Aside0.mk (pw_below_drewN HB.out nd); have n2 := Aside0.mk (Kd.C_drewN HRW.out nd); clear HB HRW; have HB := n1; have HRW := n2; clear n1 n2))
      go_ret2
      exact ⟨_, rfl, Kd.R_nil _ _ _ _ _, HB.out⟩
    rw [if_neg hc] at h
    have HL := Aside0.mk (level_0 a1 1 hc)
    have HP := Aside0.mk (poss_eq a2_0 a2_1)
    cases hp : possB a2_0 a2_1 with
    | false =>
      rw [if_pos hp] at h
      simp only [Option.some.injEq, Prod.mk.injEq] at h
      obtain ⟨rfl, rfl⟩ := h
      rw [hp] at HP
      clear hc hp
      go_enter Try.func27, Try.ntmps27
      go_wp2_with (first | ((with_reducible refine gate_dst (N := 5) rfl ?_); refine box_event ?hg (N := 5) ?hd (cs := #[.int .i64 a2_0, .int .i64 a2_1]) (t := 23) ?hr ?_; (case hd => rfl); (case hg => rfl); (case hr => first | (go_simp; done) | (go_simp; rfl)); intro g5 hg W5 hbox hb; have HRW := Aside0.mk (Kd.C_below HR0.out hb); have BK5 := Aside0.mk hbox; have n1 := Aside0.mk (below_step HB.out hb); clear HB; have HB := n1; clear n1; have y0 := (blk_cell BK5.out 0).trans rfl; have y1 := (blk_cell BK5.out 1).trans rfl; clear hb hbox hg) | (go_at_call 30; (with_reducible refine (priority_level.calls _ 1 0 _ HL.out).mono ?_); rintro e W ⟨rfl, ⟨nd, rfl⟩⟩; have n1 := Aside0.mk (pw_below_drewN HB.out nd); have n2 := Aside0.mk (Kd.C_drewN HRW.out nd); clear HB HRW; have HB := n1; have HRW := n2; clear n1 n2) | (go_at_call 31; (with_reducible refine (priority_possible.calls a2_0 a2_1 false _ HP.out).mono ?_); rintro e w2 ⟨rfl, hb⟩; have n1 := Aside0.mk (below_step HB.out hb); have n2 := Aside0.mk (Kd.C_below HRW.out hb); have n3 := Aside0.mk (blk_below (blk_drewN BK5.out nd) hb); clear HB HRW BK5 y0 y1 hb; have HB := n1; have HRW := n2; have BK5 := n3; clear n1 n2 n3; have y0 := (blk_cell BK5.out 0).trans rfl; have y1 := (blk_cell BK5.out 1).trans rfl))
      go_ret2
      exact ⟨_, rfl, Kd.R_nil _ _ _ _ _, HB.out⟩
    | true =>
      rw [if_neg (by rw [hp]; decide)] at h
      rw [hp] at HP
      clear hp
      obtain ⟨n, rfl⟩ := Int.eq_ofNat_of_zero_le (show 0 ≤ a1 by omega)
      have hn : n < 17 := by omega
      have hn1 : ((0 : Int) ≤ n) = True := eq_true (by omega)
      have hn2 : ((n : Int) < 17) = True := eq_true (by omega)
      clear hc
      rw [show ((n : Int)).toNat = n from rfl] at h
      cases ho : tabOf l0 n with
      | none =>
        rw [ho] at h
        rw [if_neg (by decide)] at h
        simp only [Option.some.injEq, Prod.mk.injEq] at h
        obtain ⟨rfl, rfl⟩ := h
        have HO := Aside0.mk ho
        clear ho
        go_enter Try.func27, Try.ntmps27
        go_wp2_with (first | ((with_reducible refine gate_dst (N := 5) rfl ?_); refine box_event ?hg (N := 5) ?hd (cs := #[.int .i64 a2_0, .int .i64 a2_1]) (t := 23) ?hr ?_; (case hd => rfl); (case hg => rfl); (case hr => first | (go_simp; done) | (go_simp; rfl)); intro g5 hg W5 hbox hb; have HRW := Aside0.mk (Kd.C_below HR0.out hb); have BK5 := Aside0.mk hbox; have n1 := Aside0.mk (below_step HB.out hb); clear HB; have HB := n1; clear n1; have y0 := (blk_cell BK5.out 0).trans rfl; have y1 := (blk_cell BK5.out 1).trans rfl; clear hb hbox hg) | (go_at_call 30; (with_reducible refine (priority_level.calls _ 1 0 _ HL.out).mono ?_); rintro e W ⟨rfl, ⟨nd, rfl⟩⟩; have n1 := Aside0.mk (pw_below_drewN HB.out nd); have n2 := Aside0.mk (Kd.C_drewN HRW.out nd); clear HB HRW; have HB := n1; have HRW := n2; clear n1 n2) | (go_at_call 31; (with_reducible refine (priority_possible.calls a2_0 a2_1 true _ HP.out).mono ?_); rintro e w2 ⟨rfl, hb⟩; have n1 := Aside0.mk (below_step HB.out hb); have n2 := Aside0.mk (Kd.C_below HRW.out hb); have n3 := Aside0.mk (blk_below (blk_drewN BK5.out nd) hb); clear HB HRW BK5 y0 y1 hb; have HB := n1; have HRW := n2; have BK5 := n3; clear n1 n2 n3; have y0 := (blk_cell BK5.out 0).trans rfl; have y1 := (blk_cell BK5.out 1).trans rfl) | (go_at_call 33; (with_reducible refine (of_calls A0 c0 l0 _ HRW.out hc0 hl').mono ?_); rintro e w1 ⟨cs, rfl, ht, hb⟩; have HT := Aside0.mk (Tab.lower ht HB.out.size); have n1 := Aside0.mk (below_step HB.out hb); have n2 := Aside0.mk (blk_below BK5.out hb); clear HB BK5 ht hb y0 y1; have HB := n1; have BK5 := n2; clear n1 n2; have y0 := (blk_cell BK5.out 0).trans rfl; have y1 := (blk_cell BK5.out 1).trans rfl) | ((with_reducible refine gate_dst (N := 9) rfl ?_); refine box_event ?hg (N := 9) ?hd (cs := nils) (t := 56) ?hr ?_; (case hd => rfl); (case hg => rfl); (case hr => first | (go_simp; done) | (go_simp; rfl)); intro g9 hg W9 hbox hb; have GE9 := Aside0.mk ((by rw [hg]; exact HB.out.size) : w.heap.size ≤ g9); have BK9 := Aside0.mk hbox; have n0 := Aside0.mk (HT.out.below hb); have NF9 := Aside0.mk (HT.out.fresh (W := w) (Nat.le_of_eq hg.symm)); have n1 := Aside0.mk (below_step HB.out hb); have n2 := Aside0.mk (blk_below BK5.out hb); clear HB HT BK5 y0 y1; have HB := n1; have HT := n0; have BK5 := n2; clear n0 n1 n2; have y0 := (blk_cell BK5.out 0).trans rfl; have y1 := (blk_cell BK5.out 1).trans rfl; clear hb hbox hg) | (refine wpList_store_row rfl 56 (.tmp 9) (.tmp 20) rfl g9 cs rfl rfl 56 nils BK9.out (by rw [HT.out.1]; kernel_rfl) HT.out.1.symm HT.out.one ?_; have n0 := Aside0.mk (setRow_heap _ _ _ _ _ _ BK9.out : (W9.setRow g9 cs).heap[g9]? = some (.cells cs 56 (0, 0))); have n1 := Aside0.mk (HT.out.setRow cs BK9.out (by decide)); have n2 := Aside0.mk (below_setRow HB.out GE9.out cs); have n3 := Aside0.mk ((setRow_other _ g9 g5 cs (blk_ne BK5.out BK9.out (by decide))).trans BK5.out); clear BK9 HT HB BK5 y0 y1; have BK9 := n0; have HT := n1; have HB := n2; have BK5 := n3; clear n0 n1 n2 n3; have y0 := (blk_cell BK5.out 0).trans rfl; have y1 := (blk_cell BK5.out 1).trans rfl) | ((with_reducible refine gate_dst (N := 10) rfl ?_); refine box_event ?hg (N := 10) ?hd (cs := #[.int .i64 0, .int .i64 0, .int .i64 0, .int .i64 0]) (t := 25) ?hr ?_; (case hd => rfl); (case hg => rfl); (case hr => first | (go_simp; done) | (go_simp; rfl)); intro g10 hg W10 hbox hb; have GE10 := Aside0.mk ((by rw [hg]; exact HB.out.size) : w.heap.size ≤ g10); have BK10 := Aside0.mk hbox; have NF10 := Aside0.mk (HT.out.fresh (W := w) (Nat.le_of_eq hg.symm)); have n0 := Aside0.mk (HT.out.below hb); have n1 := Aside0.mk (below_step HB.out hb); have n2 := Aside0.mk (blk_below BK9.out hb); clear HB HT BK9 BK5 y0 y1; have HB := n1; have HT := n0; have BK9 := n2; clear n0 n1 n2; clear hb hbox hg) | (refine wpList_store_row rfl 25 (.tmp 10) (.tmp 23) rfl g10 #[.int .i64 (n : Int), .int .i64 1, .int .i64 a2_0, .int .i64 a2_1] rfl rfl 25 #[.int .i64 0, .int .i64 0, .int .i64 0, .int .i64 0] BK10.out (by kernel_rfl) rfl (by simp [Value.oneCell']) ?_; have HF : Aside0 (PutFacts l0 w cs g9 g10 #[.int .i64 (n : Int), .int .i64 1, .int .i64 a2_0, .int .i64 a2_1] (W10.setRow g10 #[.int .i64 (n : Int), .int .i64 1, .int .i64 a2_0, .int .i64 a2_1])) := ⟨⟨(setRow_other _ g10 g9 _ (blk_ne BK9.out BK10.out (by decide))).trans BK9.out, HT.out.setRowF #[.int .i64 (n : Int), .int .i64 1, .int .i64 a2_0, .int .i64 a2_1] NF10.out, setRow_heap _ _ _ _ _ _ BK10.out, NF10.out, below_setRow HB.out GE10.out _, GE9.out, GE10.out⟩⟩; clear BK9 BK10 HT HB; generalize W10.setRow g10 #[.int .i64 (n : Int), .int .i64 1, .int .i64 a2_0, .int .i64 a2_1] = WF at *; have hpt := HF.out.tab.2 n hn; rw [HO.out] at hpt; have hcl := HF.out.tab.at HF.out.b9 n hn; have hfz := blk_frozen HF.out.b9 n; have z0 := (blk_cell HF.out.b10 0).trans rfl; have z1 := (blk_cell HF.out.b10 1).trans rfl; have z2 := (blk_cell HF.out.b10 2).trans rfl; have z3 := (blk_cell HF.out.b10 3).trans rfl; have zf := blk_frozen HF.out.b10 1; have N9 := blk_ne HF.out.b9 HF.out.b10 (by decide); have N10 := blk_ne HF.out.b10 HF.out.b9 (by decide); rw [show cs.getD n undef = .pointer none from hpt] at hcl; clear hpt; have HFx := Aside0.mk (PutFacts.two (x := ⟨(n : Int), 1, ⟨a2_0, a2_1⟩⟩) HF.out hn); have HL9 := Aside0.mk HFx.out.1; have HLT := Aside0.mk HFx.out.2.1; have HLB := Aside0.mk HFx.out.2.2; clear HFx) | (refine wpList_load_row rfl 56 (.tmp 9) rfl g9 rfl 56 _ (0, 0) (.array 17 54) HL9.out (by kernel_rfl) rfl (by rw [HLT.out.1]; kernel_rfl) ?_) | (go_at_call 34; (with_reducible refine (list_calls _ _ _ _ HLT.out).mono ?_); rintro e w2 ⟨v, rfl, hv, hb⟩; have HV := Aside0.mk hv; have HB2 := Aside0.mk hb; clear hv hb))
        go_ret2
        exact ⟨v, rfl, Kd.R_lower HV.out HLB.out.size, below_step HLB.out HB2.out⟩
      | some y =>
        rw [ho] at h
        have hq := chk_seq (tab_ok l0 n y ho).1
        have HO := Aside0.mk ho
        clear ho
        have e : seqOf (some y) = y.f1 := rfl
        rw [e] at h
        clear e
        obtain ⟨q1, q2⟩ := hq
        by_cases hbig : y.f1 + 1 > 1000000000
        · rw [if_pos hbig] at h
          simp only [Option.some.injEq, Prod.mk.injEq] at h
          obtain ⟨rfl, rfl⟩ := h
          have hbb : decide (1000000000 < y.f1 + 1) = true := decide_eq_true hbig
          clear hbig
          go_enter Try.func27, Try.ntmps27
          go_wp2_with (first | ((with_reducible refine gate_dst (N := 5) rfl ?_); refine box_event ?hg (N := 5) ?hd (cs := #[.int .i64 a2_0, .int .i64 a2_1]) (t := 23) ?hr ?_; (case hd => rfl); (case hg => rfl); (case hr => first | (go_simp; done) | (go_simp; rfl)); intro g5 hg W5 hbox hb; have HRW := Aside0.mk (Kd.C_below HR0.out hb); have BK5 := Aside0.mk hbox; have n1 := Aside0.mk (below_step HB.out hb); clear HB; have HB := n1; clear n1; have y0 := (blk_cell BK5.out 0).trans rfl; have y1 := (blk_cell BK5.out 1).trans rfl; clear hb hbox hg) | (go_at_call 30; (with_reducible refine (priority_level.calls _ 1 0 _ HL.out).mono ?_); rintro e W ⟨rfl, ⟨nd, rfl⟩⟩; have n1 := Aside0.mk (pw_below_drewN HB.out nd); have n2 := Aside0.mk (Kd.C_drewN HRW.out nd); clear HB HRW; have HB := n1; have HRW := n2; clear n1 n2) | (go_at_call 31; (with_reducible refine (priority_possible.calls a2_0 a2_1 true _ HP.out).mono ?_); rintro e w2 ⟨rfl, hb⟩; have n1 := Aside0.mk (below_step HB.out hb); have n2 := Aside0.mk (Kd.C_below HRW.out hb); have n3 := Aside0.mk (blk_below (blk_drewN BK5.out nd) hb); clear HB HRW BK5 y0 y1 hb; have HB := n1; have HRW := n2; have BK5 := n3; clear n1 n2 n3; have y0 := (blk_cell BK5.out 0).trans rfl; have y1 := (blk_cell BK5.out 1).trans rfl) | (go_at_call 33; (with_reducible refine (of_calls A0 c0 l0 _ HRW.out hc0 hl').mono ?_); rintro e w1 ⟨cs, rfl, ht, hb⟩; have HT := Aside0.mk (Tab.lower ht HB.out.size); have n1 := Aside0.mk (below_step HB.out hb); have n2 := Aside0.mk (blk_below BK5.out hb); clear HB BK5 ht hb y0 y1; have HB := n1; have BK5 := n2; clear n1 n2; have y0 := (blk_cell BK5.out 0).trans rfl; have y1 := (blk_cell BK5.out 1).trans rfl) | ((with_reducible refine gate_dst (N := 9) rfl ?_); refine box_event ?hg (N := 9) ?hd (cs := nils) (t := 56) ?hr ?_; (case hd => rfl); (case hg => rfl); (case hr => first | (go_simp; done) | (go_simp; rfl)); intro g9 hg W9 hbox hb; have GE9 := Aside0.mk ((by rw [hg]; exact HB.out.size) : w.heap.size ≤ g9); have BK9 := Aside0.mk hbox; have n0 := Aside0.mk (HT.out.below hb); have NF9 := Aside0.mk (HT.out.fresh (W := w) (Nat.le_of_eq hg.symm)); have n1 := Aside0.mk (below_step HB.out hb); have n2 := Aside0.mk (blk_below BK5.out hb); clear HB HT BK5 y0 y1; have HB := n1; have HT := n0; have BK5 := n2; clear n0 n1 n2; have y0 := (blk_cell BK5.out 0).trans rfl; have y1 := (blk_cell BK5.out 1).trans rfl; clear hb hbox hg) | (refine wpList_store_row rfl 56 (.tmp 9) (.tmp 20) rfl g9 cs rfl rfl 56 nils BK9.out (by rw [HT.out.1]; kernel_rfl) HT.out.1.symm HT.out.one ?_; have n0 := Aside0.mk (setRow_heap _ _ _ _ _ _ BK9.out : (W9.setRow g9 cs).heap[g9]? = some (.cells cs 56 (0, 0))); have n1 := Aside0.mk (HT.out.setRow cs BK9.out (by decide)); have n2 := Aside0.mk (below_setRow HB.out GE9.out cs); have n3 := Aside0.mk ((setRow_other _ g9 g5 cs (blk_ne BK5.out BK9.out (by decide))).trans BK5.out); clear BK9 HT HB BK5 y0 y1; have BK9 := n0; have HT := n1; have HB := n2; have BK5 := n3; clear n0 n1 n2 n3; have y0 := (blk_cell BK5.out 0).trans rfl; have y1 := (blk_cell BK5.out 1).trans rfl) | ((with_reducible refine gate_dst (N := 10) rfl ?_); refine box_event ?hg (N := 10) ?hd (cs := #[.int .i64 0, .int .i64 0, .int .i64 0, .int .i64 0]) (t := 25) ?hr ?_; (case hd => rfl); (case hg => rfl); (case hr => first | (go_simp; done) | (go_simp; rfl)); intro g10 hg W10 hbox hb; have GE10 := Aside0.mk ((by rw [hg]; exact HB.out.size) : w.heap.size ≤ g10); have BK10 := Aside0.mk hbox; have NF10 := Aside0.mk (HT.out.fresh (W := w) (Nat.le_of_eq hg.symm)); have n0 := Aside0.mk (HT.out.below hb); have n1 := Aside0.mk (below_step HB.out hb); have n2 := Aside0.mk (blk_below BK9.out hb); clear HB HT BK9 BK5 y0 y1; have HB := n1; have HT := n0; have BK9 := n2; clear n0 n1 n2; clear hb hbox hg) | (refine wpList_store_row rfl 25 (.tmp 10) (.tmp 23) rfl g10 #[.int .i64 (n : Int), .int .i64 1, .int .i64 a2_0, .int .i64 a2_1] rfl rfl 25 #[.int .i64 0, .int .i64 0, .int .i64 0, .int .i64 0] BK10.out (by kernel_rfl) rfl (by simp [Value.oneCell']) ?_; have HF : Aside0 (PutFacts l0 w cs g9 g10 #[.int .i64 (n : Int), .int .i64 1, .int .i64 a2_0, .int .i64 a2_1] (W10.setRow g10 #[.int .i64 (n : Int), .int .i64 1, .int .i64 a2_0, .int .i64 a2_1])) := ⟨⟨(setRow_other _ g10 g9 _ (blk_ne BK9.out BK10.out (by decide))).trans BK9.out, HT.out.setRowF #[.int .i64 (n : Int), .int .i64 1, .int .i64 a2_0, .int .i64 a2_1] NF10.out, setRow_heap _ _ _ _ _ _ BK10.out, NF10.out, below_setRow HB.out GE10.out _, GE9.out, GE10.out⟩⟩; clear BK9 BK10 HT HB; generalize W10.setRow g10 #[.int .i64 (n : Int), .int .i64 1, .int .i64 a2_0, .int .i64 a2_1] = WF at *; have hpt := HF.out.tab.2 n hn; rw [HO.out] at hpt; have hcl := HF.out.tab.at HF.out.b9 n hn; have hfz := blk_frozen HF.out.b9 n; have z0 := (blk_cell HF.out.b10 0).trans rfl; have z1 := (blk_cell HF.out.b10 1).trans rfl; have z2 := (blk_cell HF.out.b10 2).trans rfl; have z3 := (blk_cell HF.out.b10 3).trans rfl; have zf := blk_frozen HF.out.b10 1; have N9 := blk_ne HF.out.b9 HF.out.b10 (by decide); have N10 := blk_ne HF.out.b10 HF.out.b9 (by decide); obtain ⟨gy, ey, hB, hy⟩ := hpt; rw [ey] at hcl; have NY := HF.out.ne n hn y HO.out gy ey; clear ey hB; have y60 := (blk_cell hy 0).trans rfl; have y61 := (blk_cell hy 1).trans rfl; clear hy))
          go_ret2
          exact ⟨_, rfl, Kd.R_nil _ _ _ _ _, below_set HF.out.bel HF.out.l10⟩
        · rw [if_neg hbig] at h
          simp only [Option.some.injEq, Prod.mk.injEq] at h
          obtain ⟨rfl, rfl⟩ := h
          have hbb : decide (1000000000 < y.f1 + 1) = false := decide_eq_false hbig
          clear hbig
          go_enter Try.func27, Try.ntmps27
          go_wp2_with (first | ((with_reducible refine gate_dst (N := 5) rfl ?_); refine box_event ?hg (N := 5) ?hd (cs := #[.int .i64 a2_0, .int .i64 a2_1]) (t := 23) ?hr ?_; (case hd => rfl); (case hg => rfl); (case hr => first | (go_simp; done) | (go_simp; rfl)); intro g5 hg W5 hbox hb; have HRW := Aside0.mk (Kd.C_below HR0.out hb); have BK5 := Aside0.mk hbox; have n1 := Aside0.mk (below_step HB.out hb); clear HB; have HB := n1; clear n1; have y0 := (blk_cell BK5.out 0).trans rfl; have y1 := (blk_cell BK5.out 1).trans rfl; clear hb hbox hg) | (go_at_call 30; (with_reducible refine (priority_level.calls _ 1 0 _ HL.out).mono ?_); rintro e W ⟨rfl, ⟨nd, rfl⟩⟩; have n1 := Aside0.mk (pw_below_drewN HB.out nd); have n2 := Aside0.mk (Kd.C_drewN HRW.out nd); clear HB HRW; have HB := n1; have HRW := n2; clear n1 n2) | (go_at_call 31; (with_reducible refine (priority_possible.calls a2_0 a2_1 true _ HP.out).mono ?_); rintro e w2 ⟨rfl, hb⟩; have n1 := Aside0.mk (below_step HB.out hb); have n2 := Aside0.mk (Kd.C_below HRW.out hb); have n3 := Aside0.mk (blk_below (blk_drewN BK5.out nd) hb); clear HB HRW BK5 y0 y1 hb; have HB := n1; have HRW := n2; have BK5 := n3; clear n1 n2 n3; have y0 := (blk_cell BK5.out 0).trans rfl; have y1 := (blk_cell BK5.out 1).trans rfl) | (go_at_call 33; (with_reducible refine (of_calls A0 c0 l0 _ HRW.out hc0 hl').mono ?_); rintro e w1 ⟨cs, rfl, ht, hb⟩; have HT := Aside0.mk (Tab.lower ht HB.out.size); have n1 := Aside0.mk (below_step HB.out hb); have n2 := Aside0.mk (blk_below BK5.out hb); clear HB BK5 ht hb y0 y1; have HB := n1; have BK5 := n2; clear n1 n2; have y0 := (blk_cell BK5.out 0).trans rfl; have y1 := (blk_cell BK5.out 1).trans rfl) | ((with_reducible refine gate_dst (N := 9) rfl ?_); refine box_event ?hg (N := 9) ?hd (cs := nils) (t := 56) ?hr ?_; (case hd => rfl); (case hg => rfl); (case hr => first | (go_simp; done) | (go_simp; rfl)); intro g9 hg W9 hbox hb; have GE9 := Aside0.mk ((by rw [hg]; exact HB.out.size) : w.heap.size ≤ g9); have BK9 := Aside0.mk hbox; have n0 := Aside0.mk (HT.out.below hb); have NF9 := Aside0.mk (HT.out.fresh (W := w) (Nat.le_of_eq hg.symm)); have n1 := Aside0.mk (below_step HB.out hb); have n2 := Aside0.mk (blk_below BK5.out hb); clear HB HT BK5 y0 y1; have HB := n1; have HT := n0; have BK5 := n2; clear n0 n1 n2; have y0 := (blk_cell BK5.out 0).trans rfl; have y1 := (blk_cell BK5.out 1).trans rfl; clear hb hbox hg) | (refine wpList_store_row rfl 56 (.tmp 9) (.tmp 20) rfl g9 cs rfl rfl 56 nils BK9.out (by rw [HT.out.1]; kernel_rfl) HT.out.1.symm HT.out.one ?_; have n0 := Aside0.mk (setRow_heap _ _ _ _ _ _ BK9.out : (W9.setRow g9 cs).heap[g9]? = some (.cells cs 56 (0, 0))); have n1 := Aside0.mk (HT.out.setRow cs BK9.out (by decide)); have n2 := Aside0.mk (below_setRow HB.out GE9.out cs); have n3 := Aside0.mk ((setRow_other _ g9 g5 cs (blk_ne BK5.out BK9.out (by decide))).trans BK5.out); clear BK9 HT HB BK5 y0 y1; have BK9 := n0; have HT := n1; have HB := n2; have BK5 := n3; clear n0 n1 n2 n3; have y0 := (blk_cell BK5.out 0).trans rfl; have y1 := (blk_cell BK5.out 1).trans rfl) | ((with_reducible refine gate_dst (N := 10) rfl ?_); refine box_event ?hg (N := 10) ?hd (cs := #[.int .i64 0, .int .i64 0, .int .i64 0, .int .i64 0]) (t := 25) ?hr ?_; (case hd => rfl); (case hg => rfl); (case hr => first | (go_simp; done) | (go_simp; rfl)); intro g10 hg W10 hbox hb; have GE10 := Aside0.mk ((by rw [hg]; exact HB.out.size) : w.heap.size ≤ g10); have BK10 := Aside0.mk hbox; have NF10 := Aside0.mk (HT.out.fresh (W := w) (Nat.le_of_eq hg.symm)); have n0 := Aside0.mk (HT.out.below hb); have n1 := Aside0.mk (below_step HB.out hb); have n2 := Aside0.mk (blk_below BK9.out hb); clear HB HT BK9 BK5 y0 y1; have HB := n1; have HT := n0; have BK9 := n2; clear n0 n1 n2; clear hb hbox hg) | (refine wpList_store_row rfl 25 (.tmp 10) (.tmp 23) rfl g10 #[.int .i64 (n : Int), .int .i64 1, .int .i64 a2_0, .int .i64 a2_1] rfl rfl 25 #[.int .i64 0, .int .i64 0, .int .i64 0, .int .i64 0] BK10.out (by kernel_rfl) rfl (by simp [Value.oneCell']) ?_; have HF : Aside0 (PutFacts l0 w cs g9 g10 #[.int .i64 (n : Int), .int .i64 1, .int .i64 a2_0, .int .i64 a2_1] (W10.setRow g10 #[.int .i64 (n : Int), .int .i64 1, .int .i64 a2_0, .int .i64 a2_1])) := ⟨⟨(setRow_other _ g10 g9 _ (blk_ne BK9.out BK10.out (by decide))).trans BK9.out, HT.out.setRowF #[.int .i64 (n : Int), .int .i64 1, .int .i64 a2_0, .int .i64 a2_1] NF10.out, setRow_heap _ _ _ _ _ _ BK10.out, NF10.out, below_setRow HB.out GE10.out _, GE9.out, GE10.out⟩⟩; clear BK9 BK10 HT HB; generalize W10.setRow g10 #[.int .i64 (n : Int), .int .i64 1, .int .i64 a2_0, .int .i64 a2_1] = WF at *; have hpt := HF.out.tab.2 n hn; rw [HO.out] at hpt; have hcl := HF.out.tab.at HF.out.b9 n hn; have hfz := blk_frozen HF.out.b9 n; have z0 := (blk_cell HF.out.b10 0).trans rfl; have z1 := (blk_cell HF.out.b10 1).trans rfl; have z2 := (blk_cell HF.out.b10 2).trans rfl; have z3 := (blk_cell HF.out.b10 3).trans rfl; have zf := blk_frozen HF.out.b10 1; have N9 := blk_ne HF.out.b9 HF.out.b10 (by decide); have N10 := blk_ne HF.out.b10 HF.out.b9 (by decide); obtain ⟨gy, ey, hB, hy⟩ := hpt; rw [ey] at hcl; have NY := HF.out.ne n hn y HO.out gy ey; clear ey hB; have y60 := (blk_cell hy 0).trans rfl; have y61 := (blk_cell hy 1).trans rfl; clear hy; have HFx := Aside0.mk (PutFacts.two (x := ⟨(n : Int), y.f1 + 1, ⟨a2_0, a2_1⟩⟩) (HF.out.one 1 (.int .i64 (y.f1 + 1))) hn); have HL9 := Aside0.mk HFx.out.1; have HLT := Aside0.mk HFx.out.2.1; have HLB := Aside0.mk HFx.out.2.2; clear HFx) | (refine wpList_load_row rfl 56 (.tmp 9) rfl g9 rfl 56 _ (0, 0) (.array 17 54) HL9.out (by kernel_rfl) rfl (by rw [HLT.out.1]; kernel_rfl) ?_) | (go_at_call 34; (with_reducible refine (list_calls _ _ _ _ HLT.out).mono ?_); rintro e w2 ⟨v, rfl, hv, hb⟩; have HV := Aside0.mk hv; have HB2 := Aside0.mk hb; clear hv hb))
          go_ret2
          exact ⟨v, rfl, Kd.R_lower HV.out HLB.out.size, below_step HLB.out HB2.out⟩
  · rw [if_neg hl] at h
    cases h
end Go.Proofs.Ytejidnmgjccidaa.R
end
section
namespace Go.Proofs.Ytejidnmgjccidaa.R
open Go.RowKit Go.Proofs.YtejidnmgjccidaaW.PrintWords Go.Proofs.YtejidnmgjccidaaW.PrintLast Go.Proofs.YtejidnmgjccidaaW.PrintMore
set_option linter.unusedVariables false
set_option linter.unusedSimpArgs false
set_option maxHeartbeats 16000000 in
set_option maxRecDepth 100000 in
theorem priority_Slot.calls (A0 : Option Addr) (c0 : Nat) (l0 : List (S25)) (a1 : Int) (r1 : Int) (r2 : Int) (r3 : Int) (w : World) (hr0 : Kd.C k25 w A0 l0.length l0) (hc0 : l0.length ≤ c0) (h : priority_Slot.f l0 a1 = some (r1, r2, r3)) :
    Calls Try.prog 23 #[.slice A0 l0.length c0, .int .i64 a1] w fun e w' => e = .returned (.tuple #[.agg #[.int .i64 r1, .int .i64 r2], .int .i64 r3]) ∧ Below w.heap.size w w' := by
  unfold priority_Slot.f at h
  by_cases hl : okLen l0
  · rw [if_pos hl] at h
    have hl' : l0.length ≤ 1000 := hl
    clear hl
    have HR0 := Aside0.mk hr0
    clear hr0
    have HB := Aside0.mk (Below.refl w.heap.size w)
    by_cases hc : a1 < 1 ∨ a1 > 16
    · rw [if_pos hc] at h
      simp only [Option.some.injEq, Prod.mk.injEq] at h
      obtain ⟨rfl, rfl, rfl⟩ := h
      have HL := Aside0.mk (level_1 a1 1 hc)
      clear hc
      go_enter Try.func23, Try.ntmps23
      go_wp2_with (first | ((with_reducible refine gate_dst (N := 4) rfl ?_); refine box_event ?hg (N := 4) ?hd (cs := #[.int .i64 0, .int .i64 0]) (t := 23) ?hr ?_; (case hd => rfl); (case hg => rfl); (case hr => first | (go_simp; done) | (go_simp; rfl)); intro g4 hg W4 hbox hb; have GE4 := Aside0.mk (Nat.le_of_eq hg.symm : w.heap.size ≤ g4); have BK4 := Aside0.mk hbox; have HRW := Aside0.mk (Kd.C_below HR0.out hb); have HB4 := Aside0.mk (below_step HB.out hb); clear HB; have hz0 := (blk_cell BK4.out 0).trans rfl; have hz1 := (blk_cell BK4.out 1).trans rfl; have hf0 := blk_frozen BK4.out 0; have hf1 := blk_frozen BK4.out 1; clear hb hbox hg) | (go_at_call 30; (with_reducible refine (priority_level.calls a1 1 1 _ HL.out).mono ?_); rintro e W ⟨rfl, ⟨nd, rfl⟩⟩))
      refine bodyPost_ret (results_ct rfl _ _ g4 23 #[.int .i64 0, .int .i64 0] (0, 0) _ rfl (by (with_reducible repeat (first | refine blk_drewN ?_ _ | refine blk_drew ?_ | refine blk_alloc ?_ _)); refine blk_put (cs := #[.int .i64 0, .int .i64 0]) ?_ 1 _ rfl; (with_reducible repeat (first | refine blk_drewN ?_ _ | refine blk_drew ?_ | refine blk_alloc ?_ _)); refine blk_put (cs := #[.int .i64 0, .int .i64 0]) ?_ 0 _ rfl; (with_reducible repeat (first | refine blk_drewN ?_ _ | refine blk_drew ?_ | refine blk_alloc ?_ _)); exact BK4.out) Try.underlying23 rfl (by kernel_rfl)) rfl ?_
      exact ⟨rfl, by repeat (first | (with_reducible first | exact HB4.out | apply below_alloc | apply pw_below_drewN | apply below_drew1 | refine below_set ?_ GE4.out) | exact HB4.out)⟩
    · rw [if_neg hc] at h
      have HL := Aside0.mk (level_0 a1 1 hc)
      obtain ⟨n, rfl⟩ := Int.eq_ofNat_of_zero_le (show 0 ≤ a1 by omega)
      have hn : n < 17 := by omega
      clear hc
      rw [show ((n : Int)).toNat = n from rfl] at h
      have HX := Aside0.mk (fun cs (hs : cs.size = 17) => run_index_tab cs hs n hn)
      cases ho : tabOf l0 n with
      | none =>
        rw [ho] at h
        simp only [valOf, Option.some.injEq, Prod.mk.injEq] at h
        obtain ⟨rfl, rfl, rfl⟩ := h
        have HO := Aside0.mk ho
        clear ho
        go_enter Try.func23, Try.ntmps23
        go_wp2_with (first | ((with_reducible refine gate_dst (N := 4) rfl ?_); refine box_event ?hg (N := 4) ?hd (cs := #[.int .i64 0, .int .i64 0]) (t := 23) ?hr ?_; (case hd => rfl); (case hg => rfl); (case hr => first | (go_simp; done) | (go_simp; rfl)); intro g4 hg W4 hbox hb; have GE4 := Aside0.mk (Nat.le_of_eq hg.symm : w.heap.size ≤ g4); have BK4 := Aside0.mk hbox; have HRW := Aside0.mk (Kd.C_below HR0.out hb); have HB4 := Aside0.mk (below_step HB.out hb); clear HB; have hz0 := (blk_cell BK4.out 0).trans rfl; have hz1 := (blk_cell BK4.out 1).trans rfl; have hf0 := blk_frozen BK4.out 0; have hf1 := blk_frozen BK4.out 1; clear hb hbox hg) | (go_at_call 30; (with_reducible refine (priority_level.calls (n : Int) 1 0 _ HL.out).mono ?_); rintro e W ⟨rfl, ⟨nd, rfl⟩⟩) | (go_at_call 33; (with_reducible refine (of_calls A0 c0 l0 _ (by repeat (first | (with_reducible first | exact HRW.out | apply Kd.C_drewN | apply Kd.C_drew) | exact HRW.out)) hc0 hl').mono ?_); rintro e w1 ⟨cs, rfl, ht, hb⟩; have HT := Aside0.mk ht; have hix := HX.out cs HT.out.1; have hp := HT.out.2 n hn; rw [HO.out] at hp; rw [show cs.getD n undef = .pointer none from hp] at hix; clear hp; have HB1 := Aside0.mk (below_step (pw_below_drewN HB4.out nd) hb); have BK4b := Aside0.mk (blk_below (blk_drewN BK4.out nd) hb); clear HB4 BK4 hz0 hz1 hf0 hf1; have hz0 := (blk_cell BK4b.out 0).trans rfl; have hz1 := (blk_cell BK4b.out 1).trans rfl; have hf0 := blk_frozen BK4b.out 0; have hf1 := blk_frozen BK4b.out 1; clear ht hb))
        refine bodyPost_ret (results_ct rfl _ _ g4 23 #[.int .i64 0, .int .i64 0] (0, 0) _ rfl (by (with_reducible repeat (first | refine blk_drewN ?_ _ | refine blk_drew ?_ | refine blk_alloc ?_ _)); refine blk_put (cs := #[.int .i64 0, .int .i64 0]) ?_ 1 _ rfl; (with_reducible repeat (first | refine blk_drewN ?_ _ | refine blk_drew ?_ | refine blk_alloc ?_ _)); refine blk_put (cs := #[.int .i64 0, .int .i64 0]) ?_ 0 _ rfl; (with_reducible repeat (first | refine blk_drewN ?_ _ | refine blk_drew ?_ | refine blk_alloc ?_ _)); exact BK4b.out) Try.underlying23 rfl (by kernel_rfl)) rfl ?_
        exact ⟨rfl, by repeat (first | (with_reducible first | exact HB1.out | apply below_alloc | apply pw_below_drewN | apply below_drew1 | refine below_set ?_ GE4.out) | exact HB1.out)⟩
      | some y =>
        rw [ho] at h
        simp only [valOf, Option.some.injEq, Prod.mk.injEq] at h
        obtain ⟨rfl, rfl, rfl⟩ := h
        have HO := Aside0.mk ho
        clear ho
        go_enter Try.func23, Try.ntmps23
        go_wp2_with (first | ((with_reducible refine gate_dst (N := 4) rfl ?_); refine box_event ?hg (N := 4) ?hd (cs := #[.int .i64 0, .int .i64 0]) (t := 23) ?hr ?_; (case hd => rfl); (case hg => rfl); (case hr => first | (go_simp; done) | (go_simp; rfl)); intro g4 hg W4 hbox hb; have GE4 := Aside0.mk (Nat.le_of_eq hg.symm : w.heap.size ≤ g4); have BK4 := Aside0.mk hbox; have HRW := Aside0.mk (Kd.C_below HR0.out hb); have HB4 := Aside0.mk (below_step HB.out hb); clear HB; have hz0 := (blk_cell BK4.out 0).trans rfl; have hz1 := (blk_cell BK4.out 1).trans rfl; have hf0 := blk_frozen BK4.out 0; have hf1 := blk_frozen BK4.out 1; clear hb hbox hg) | (go_at_call 30; (with_reducible refine (priority_level.calls (n : Int) 1 0 _ HL.out).mono ?_); rintro e W ⟨rfl, ⟨nd, rfl⟩⟩) | (go_at_call 33; (with_reducible refine (of_calls A0 c0 l0 _ (by repeat (first | (with_reducible first | exact HRW.out | apply Kd.C_drewN | apply Kd.C_drew) | exact HRW.out)) hc0 hl').mono ?_); rintro e w1 ⟨cs, rfl, ht, hb⟩; have HT := Aside0.mk ht; have hix := HX.out cs HT.out.1; have hp := HT.out.2 n hn; rw [HO.out] at hp; obtain ⟨gy, ey, hB, hy⟩ := hp; rw [ey] at hix; clear ey hB; have y60 := (blk_cell hy 0).trans rfl; have y61 := (blk_cell hy 1).trans rfl; have y62 := (blk_cell hy 2).trans rfl; have y63 := (blk_cell hy 3).trans rfl; have HB1 := Aside0.mk (below_step (pw_below_drewN HB4.out nd) hb); have BK4b := Aside0.mk (blk_below (blk_drewN BK4.out nd) hb); have NY := blk_ne hy BK4b.out (by decide); clear HB4 BK4 hz0 hz1 hf0 hf1 hy; have hz0 := (blk_cell BK4b.out 0).trans rfl; have hz1 := (blk_cell BK4b.out 1).trans rfl; have hf0 := blk_frozen BK4b.out 0; have hf1 := blk_frozen BK4b.out 1; clear ht hb))
        refine bodyPost_ret (results_ct rfl _ _ g4 23 #[.int .i64 y.f2.f0, .int .i64 y.f2.f1] (0, 0) _ rfl (by (with_reducible repeat (first | refine blk_drewN ?_ _ | refine blk_drew ?_ | refine blk_alloc ?_ _)); refine blk_put (cs := #[.int .i64 y.f2.f0, .int .i64 0]) ?_ 1 _ rfl; (with_reducible repeat (first | refine blk_drewN ?_ _ | refine blk_drew ?_ | refine blk_alloc ?_ _)); refine blk_put (cs := #[.int .i64 0, .int .i64 0]) ?_ 0 _ rfl; (with_reducible repeat (first | refine blk_drewN ?_ _ | refine blk_drew ?_ | refine blk_alloc ?_ _)); exact BK4b.out) Try.underlying23 rfl (by kernel_rfl)) rfl ?_
        exact ⟨rfl, by repeat (first | (with_reducible first | exact HB1.out | apply below_alloc | apply pw_below_drewN | apply below_drew1 | refine below_set ?_ GE4.out) | exact HB1.out)⟩
  · rw [if_neg hl] at h
    cases h
end Go.Proofs.Ytejidnmgjccidaa.R
end
