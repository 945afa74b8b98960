/- MinimumReplays: one part of the proof that the law answers true for every input, and that its arguments read afterwards as before. No condition. -/
import Derived.Test.YtjllpbllmeegiaaCReplays5
import Derived.ProofKit
import Derived.Deep.Slices
import Derived.SizedLaws
import Derived.OpenShut
import Derived.DataReads
import Derived.WalkKit
import Derived.ShutString
import Derived.ChangeOld
import Derived.Below
import Derived.Test.YtjllpbllmeegiaaRows
section
namespace Go.Proofs.Ytjllpbllmeegiaa.R
open Go.RowKit Go.Proofs.YtjllpbllmeegiaaW.PrintWords Go.Proofs.YtjllpbllmeegiaaW.PrintLast Go.Proofs.YtjllpbllmeegiaaW.PrintMore
attribute [local go_sem] max2_int min2_int max_two min_two max_three min_three max_four min_four
set_option linter.unusedVariables false
set_option linter.unusedSimpArgs false
def plenumlaw14_MinimumReplays.f (k : Nat) (a0_0 : ByteArray) (a0_1 : Int) (a0_2 : Int) (a0_3 : ByteArray) (a0_4 : Int) (a0_5 : Int) (a0_6 : Int) (l0_7 : List ByteArray) (a0_8 : Int) (a0_9 : Int) (a0_10 : Int) (a0_11 : Int) (a1_0 : Int) (a1_1 : Int) (a1_2 : Int) (l2 : List (S32)) : Option (Bool) := (plenumlaw14_awake.f k).bind fun t222 => (if t222 = true then ((plenumref14_Fits.f k a0_0 a0_1 a0_2 a0_3 a0_4 a0_5 a0_6 l0_7 a0_8 a0_9 a0_10 a0_11 a1_0 a1_1 a1_2 l2).bind fun t223 => (if t223 = true then ((plenumlaw14_ours.f k l2).bind fun t224 => ((minimum_Replay.f k a0_0 a0_1 a0_2 a0_3 a0_4 a0_5 a0_6 l0_7 a0_8 a0_9 a0_10 a0_11 a1_0 a1_1 a1_2 t224).bind fun bt227 => ((plenumref14_Replay.f k a0_0 a0_1 a0_2 a0_3 a0_4 a0_5 a0_6 l0_7 a0_8 a0_9 a0_10 a0_11 a1_0 a1_1 a1_2 l2).bind fun bt231 => (if bt227.2 = bt231.2 then ((plenumref14_Same.f k bt227.1 bt231.1).bind fun t235 => (some t235)) else (none))))) else (some true))) else (none))
def plenumlaw14_MinimumReplays.T5 : Bool × List (List Nat × List Nat) := (true, [([], []), ([], []), ([], []), ([2], [2]), ([0, 1, 3, 3], [0, 1, 3]), ([4], [4]), ([5], [5]), ([5], [5]), ([6, 4, 0, 1, 2, 3, 4, 5, 6], [6]), ([7, 8, 0, 1, 2, 3, 4, 5, 6, 7, 8], [7])])
def plenumlaw14_MinimumReplays.B5 : List Nat := [0, 0, 0, 4, 15, 31, 63, 63, 127, 511]
theorem plenumlaw14_MinimumReplays.tab5 : rtab .any (opsOf Try.f5 5) = plenumlaw14_MinimumReplays.T5 := by kernel_rfl
theorem plenumlaw14_MinimumReplays.bits5 : waitsOk plenumlaw14_MinimumReplays.T5.2 plenumlaw14_MinimumReplays.B5 = true := by kernel_rfl
set_option maxHeartbeats 8000000 in
set_option maxRecDepth 100000 in
theorem plenumlaw14_MinimumReplays.calls (k : Nat) (a0_0 : ByteArray) (a0_1 : Int) (a0_2 : Int) (a0_3 : ByteArray) (a0_4 : Int) (a0_5 : Int) (a0_6 : Int) (A0_7 : Option Addr) (c0_7 : Nat) (l0_7 : List ByteArray) (a0_8 : Int) (a0_9 : Int) (a0_10 : Int) (a0_11 : Int) (a1_0 : Int) (a1_1 : Int) (a1_2 : Int) (A2 : Option Addr) (c2 : Nat) (l2 : List (S32)) (r : Bool) (w : World) (hr0_7 : Kd.C Kd.string w A0_7 l0_7.length l0_7) (hc0_7 : l0_7.length ≤ c0_7) (hr2 : Kd.C k32 w A2 l2.length l2) (hc2 : l2.length ≤ c2) (h : plenumlaw14_MinimumReplays.f k a0_0 a0_1 a0_2 a0_3 a0_4 a0_5 a0_6 l0_7 a0_8 a0_9 a0_10 a0_11 a1_0 a1_1 a1_2 l2 = some r) :
    Calls Try.prog 5 #[.agg #[.string a0_0, .int .i64 a0_1, .int .i64 a0_2, .string a0_3, .int .i64 a0_4, .int .i64 a0_5, .int .i64 a0_6, .slice A0_7 l0_7.length c0_7, .int .i64 a0_8, .int .i64 a0_9, .int .i64 a0_10, .int .i64 a0_11], .agg #[.int .i64 a1_0, .int .i64 a1_1, .int .i64 a1_2], .slice A2 l2.length c2] w fun e w' => e = .returned (.bool r) ∧ Below w.heap.size w w' := by
  have hu26 := Try.underlying26
  have hu28 := Try.underlying28
  have HR0_7 := Aside0.mk hr0_7
  have HC0_7 := Aside0.mk hc0_7
  clear hr0_7 hc0_7
  have HR2 := Aside0.mk hr2
  have HC2 := Aside0.mk hc2
  clear hr2 hc2
  have HB := Aside0.mk (Below.refl w.heap.size w)
  have H : ((plenumlaw14_awake.f k).bind fun t222 => (if t222 = true then ((plenumref14_Fits.f k a0_0 a0_1 a0_2 a0_3 a0_4 a0_5 a0_6 l0_7 a0_8 a0_9 a0_10 a0_11 a1_0 a1_1 a1_2 l2).bind fun t223 => (if t223 = true then ((plenumlaw14_ours.f k l2).bind fun t224 => ((minimum_Replay.f k a0_0 a0_1 a0_2 a0_3 a0_4 a0_5 a0_6 l0_7 a0_8 a0_9 a0_10 a0_11 a1_0 a1_1 a1_2 t224).bind fun bt227 => ((plenumref14_Replay.f k a0_0 a0_1 a0_2 a0_3 a0_4 a0_5 a0_6 l0_7 a0_8 a0_9 a0_10 a0_11 a1_0 a1_1 a1_2 l2).bind fun bt231 => (if bt227.2 = bt231.2 then ((plenumref14_Same.f k bt227.1 bt231.1).bind fun t235 => (some t235)) else (none))))) else (some true))) else (none))) = some r := h
  clear h
  replace H := Option.bind_eq_some_iff.mp H
  obtain ⟨t222, A40, H⟩ := H
  replace H : (if t222 = true then ((plenumref14_Fits.f k a0_0 a0_1 a0_2 a0_3 a0_4 a0_5 a0_6 l0_7 a0_8 a0_9 a0_10 a0_11 a1_0 a1_1 a1_2 l2).bind fun t223 => (if t223 = true then ((plenumlaw14_ours.f k l2).bind fun t224 => ((minimum_Replay.f k a0_0 a0_1 a0_2 a0_3 a0_4 a0_5 a0_6 l0_7 a0_8 a0_9 a0_10 a0_11 a1_0 a1_1 a1_2 t224).bind fun bt227 => ((plenumref14_Replay.f k a0_0 a0_1 a0_2 a0_3 a0_4 a0_5 a0_6 l0_7 a0_8 a0_9 a0_10 a0_11 a1_0 a1_1 a1_2 l2).bind fun bt231 => (if bt227.2 = bt231.2 then ((plenumref14_Same.f k bt227.1 bt231.1).bind fun t235 => (some t235)) else (none))))) else (some true))) else (none)) = some r := H
  have A4 := Aside0.mk A40
  clear A40
  by_cases c5 : t222 = true
  · subst c5
    have H1 : ((plenumref14_Fits.f k a0_0 a0_1 a0_2 a0_3 a0_4 a0_5 a0_6 l0_7 a0_8 a0_9 a0_10 a0_11 a1_0 a1_1 a1_2 l2).bind fun t223 => (if t223 = true then ((plenumlaw14_ours.f k l2).bind fun t224 => ((minimum_Replay.f k a0_0 a0_1 a0_2 a0_3 a0_4 a0_5 a0_6 l0_7 a0_8 a0_9 a0_10 a0_11 a1_0 a1_1 a1_2 t224).bind fun bt227 => ((plenumref14_Replay.f k a0_0 a0_1 a0_2 a0_3 a0_4 a0_5 a0_6 l0_7 a0_8 a0_9 a0_10 a0_11 a1_0 a1_1 a1_2 l2).bind fun bt231 => (if bt227.2 = bt231.2 then ((plenumref14_Same.f k bt227.1 bt231.1).bind fun t235 => (some t235)) else (none))))) else (some true))) = some r := by rw [if_pos rfl] at H; exact H
    clear H
    have H := H1
    clear H1
    replace H := Option.bind_eq_some_iff.mp H
    obtain ⟨t223, A60, H⟩ := H
    replace H : (if t223 = true then ((plenumlaw14_ours.f k l2).bind fun t224 => ((minimum_Replay.f k a0_0 a0_1 a0_2 a0_3 a0_4 a0_5 a0_6 l0_7 a0_8 a0_9 a0_10 a0_11 a1_0 a1_1 a1_2 t224).bind fun bt227 => ((plenumref14_Replay.f k a0_0 a0_1 a0_2 a0_3 a0_4 a0_5 a0_6 l0_7 a0_8 a0_9 a0_10 a0_11 a1_0 a1_1 a1_2 l2).bind fun bt231 => (if bt227.2 = bt231.2 then ((plenumref14_Same.f k bt227.1 bt231.1).bind fun t235 => (some t235)) else (none))))) else (some true)) = some r := H
    have A6 := Aside0.mk A60
    clear A60
    by_cases c7 : t223 = true
    · subst c7
      have H1 : ((plenumlaw14_ours.f k l2).bind fun t224 => ((minimum_Replay.f k a0_0 a0_1 a0_2 a0_3 a0_4 a0_5 a0_6 l0_7 a0_8 a0_9 a0_10 a0_11 a1_0 a1_1 a1_2 t224).bind fun bt227 => ((plenumref14_Replay.f k a0_0 a0_1 a0_2 a0_3 a0_4 a0_5 a0_6 l0_7 a0_8 a0_9 a0_10 a0_11 a1_0 a1_1 a1_2 l2).bind fun bt231 => (if bt227.2 = bt231.2 then ((plenumref14_Same.f k bt227.1 bt231.1).bind fun t235 => (some t235)) else (none))))) = some r := by rw [if_pos rfl] at H; exact H
      clear H
      have H := H1
      clear H1
      replace H := Option.bind_eq_some_iff.mp H
      obtain ⟨t224, A80, H⟩ := H
      replace H : ((minimum_Replay.f k a0_0 a0_1 a0_2 a0_3 a0_4 a0_5 a0_6 l0_7 a0_8 a0_9 a0_10 a0_11 a1_0 a1_1 a1_2 t224).bind fun bt227 => ((plenumref14_Replay.f k a0_0 a0_1 a0_2 a0_3 a0_4 a0_5 a0_6 l0_7 a0_8 a0_9 a0_10 a0_11 a1_0 a1_1 a1_2 l2).bind fun bt231 => (if bt227.2 = bt231.2 then ((plenumref14_Same.f k bt227.1 bt231.1).bind fun t235 => (some t235)) else (none)))) = some r := H
      have A8 := Aside0.mk A80
      clear A80
      replace H := Option.bind_eq_some_iff.mp H
      obtain ⟨⟨t227, t230⟩, A90, H⟩ := H
      replace H : ((plenumref14_Replay.f k a0_0 a0_1 a0_2 a0_3 a0_4 a0_5 a0_6 l0_7 a0_8 a0_9 a0_10 a0_11 a1_0 a1_1 a1_2 l2).bind fun bt231 => (if t230 = bt231.2 then ((plenumref14_Same.f k t227 bt231.1).bind fun t235 => (some t235)) else (none))) = some r := H
      have A9 := Aside0.mk A90
      clear A90
      replace H := Option.bind_eq_some_iff.mp H
      obtain ⟨⟨t231, t234⟩, A100, H⟩ := H
      replace H : (if t230 = t234 then ((plenumref14_Same.f k t227 t231).bind fun t235 => (some t235)) else (none)) = some r := H
      have A10 := Aside0.mk A100
      clear A100
      by_cases c11 : t230 = t234
      · rw [if_pos c11] at H
        have c11b0 : (t230 == t234) = true := beq_iff_eq.mpr c11
        have c11b1 : (t230 != t234) = false := bne_eq_false_iff_eq.mpr c11
        clear c11
        replace H := Option.bind_eq_some_iff.mp H
        obtain ⟨t235, A120, H⟩ := H
        replace H : (some t235) = some r := H
        have A12 := Aside0.mk A120
        clear A120
        obtain rfl := Option.some.inj H
        go_enter Try.func5, Try.ntmps5
        try go_wp2_with (first | ((with_reducible refine gate_dst (N := 3) rfl ?_); refine box_event ?hg (N := 3) ?hd (cs := #[.string a0_0, .int .i64 a0_1, .int .i64 a0_2, .string a0_3, .int .i64 a0_4, .int .i64 a0_5, .int .i64 a0_6, .slice A0_7 l0_7.length c0_7, .int .i64 a0_8, .int .i64 a0_9, .int .i64 a0_10, .int .i64 a0_11]) (t := 26) ?hr ?_; (case hd => rfl); (case hg => rfl); (case hr => first | (go_simp; done) | (go_simp; rfl)); intro gb220 hg w13 hbox hb; have n0_ := Aside0.mk (below_step (by repeat (first | (with_reducible first | exact HB.out | apply below_alloc | apply pw_below_drewN | apply below_drew1) | exact HB.out)) hb); have n1_ := Aside0.mk (hbox); have n2_ := Aside0.mk ((by rw [hg]; exact (below_size (by repeat (first | (with_reducible first | exact HB.out | apply below_alloc | apply pw_below_drewN | apply below_drew1) | exact HB.out))) : w.heap.size ≤ gb220)); have n3_ := Aside0.mk ((by rw [hg]; exact (below_size (by repeat (first | (with_reducible first | exact HB.out | apply below_alloc | apply pw_below_drewN | apply below_drew1) | exact HB.out))) : w.heap.size ≤ gb220)); clear HB; have HB := n0_; have BK220 := n1_; have GW220 := n2_; have GE220 := n3_; clear n0_ n1_ n2_ n3_; clear hb hbox hg) | ((with_reducible refine gate_dst (N := 4) rfl ?_); refine box_event ?hg (N := 4) ?hd (cs := #[.int .i64 a1_0, .int .i64 a1_1, .int .i64 a1_2]) (t := 28) ?hr ?_; (case hd => rfl); (case hg => rfl); (case hr => first | (go_simp; done) | (go_simp; rfl)); intro gb221 hg w14 hbox hb; have n0_ := Aside0.mk (blk_below (g := gb220) (o := .cells #[.string a0_0, .int .i64 a0_1, .int .i64 a0_2, .string a0_3, .int .i64 a0_4, .int .i64 a0_5, .int .i64 a0_6, .slice A0_7 l0_7.length c0_7, .int .i64 a0_8, .int .i64 a0_9, .int .i64 a0_10, .int .i64 a0_11] 26 (0, 0)) (by (with_reducible repeat (first | refine blk_drewN ?_ _ | refine blk_drew ?_ | refine blk_alloc ?_ _)); exact BK220.out) hb); have n1_ := Aside0.mk (below_step (by repeat (first | (with_reducible first | exact HB.out | apply below_alloc | apply pw_below_drewN | apply below_drew1 | refine below_set ?_ GE220.out) | exact HB.out)) hb); have n2_ := Aside0.mk (hbox); have n3_ := Aside0.mk ((by rw [hg]; exact (below_size (by repeat (first | (with_reducible first | exact HB.out | apply below_alloc | apply pw_below_drewN | apply below_drew1 | refine below_set ?_ GE220.out) | exact HB.out))) : w.heap.size ≤ gb221)); have n4_ := Aside0.mk ((by rw [hg]; exact (below_size (by repeat (first | (with_reducible first | exact HB.out | apply below_alloc | apply pw_below_drewN | apply below_drew1 | refine below_set ?_ GE220.out) | exact HB.out))) : w.heap.size ≤ gb221)); have n5_ := Aside0.mk ((by rw [hg]; exact Nat.ne_of_lt (blk_lt (g := gb220) (o := .cells #[.string a0_0, .int .i64 a0_1, .int .i64 a0_2, .string a0_3, .int .i64 a0_4, .int .i64 a0_5, .int .i64 a0_6, .slice A0_7 l0_7.length c0_7, .int .i64 a0_8, .int .i64 a0_9, .int .i64 a0_10, .int .i64 a0_11] 26 (0, 0)) (by (with_reducible repeat (first | refine blk_drewN ?_ _ | refine blk_drew ?_ | refine blk_alloc ?_ _)); exact BK220.out)) : gb220 ≠ gb221)); have n6_ := Aside0.mk ((by rw [hg]; exact Nat.ne_of_gt (blk_lt (g := gb220) (o := .cells #[.string a0_0, .int .i64 a0_1, .int .i64 a0_2, .string a0_3, .int .i64 a0_4, .int .i64 a0_5, .int .i64 a0_6, .slice A0_7 l0_7.length c0_7, .int .i64 a0_8, .int .i64 a0_9, .int .i64 a0_10, .int .i64 a0_11] 26 (0, 0)) (by (with_reducible repeat (first | refine blk_drewN ?_ _ | refine blk_drew ?_ | refine blk_alloc ?_ _)); exact BK220.out)) : gb221 ≠ gb220)); clear BK220; clear HB; have BK220 := n0_; have HB := n1_; have BK221 := n2_; have GW221 := n3_; have GE221 := n4_; have NB220_221 := n5_; have NB221_220 := n6_; clear n0_ n1_ n2_ n3_ n4_ n5_ n6_; clear hb hbox hg) | ((with_reducible refine gate_callee (f := 7) rfl ?_); refine goesL_ (some 11) rfl rfl Try.func7 (by kernel_rfl) rfl #[] rfl (by (try simp only [List.map_toArray, List.map_cons, List.map_nil]); first | done | rfl | (simp only [List.length_drop, List.length_take]; rfl)) ?_; (with_reducible refine (plenumlaw14_awake.calls k  true _ A4.out).mono ?_); rintro e w15 ⟨rfl, hb⟩; refine ⟨_, rfl, ?_⟩; have n0_ := Aside0.mk (blk_below (g := gb220) (o := .cells #[.string a0_0, .int .i64 a0_1, .int .i64 a0_2, .string a0_3, .int .i64 a0_4, .int .i64 a0_5, .int .i64 a0_6, .slice A0_7 l0_7.length c0_7, .int .i64 a0_8, .int .i64 a0_9, .int .i64 a0_10, .int .i64 a0_11] 26 (0, 0)) (by (with_reducible repeat (first | refine blk_drewN ?_ _ | refine blk_drew ?_ | refine blk_alloc ?_ _)); exact BK220.out) hb); have n1_ := Aside0.mk (blk_below (g := gb221) (o := .cells #[.int .i64 a1_0, .int .i64 a1_1, .int .i64 a1_2] 28 (0, 0)) (by (with_reducible repeat (first | refine blk_drewN ?_ _ | refine blk_drew ?_ | refine blk_alloc ?_ _)); exact BK221.out) hb); have n2_ := Aside0.mk (below_step (by repeat (first | (with_reducible first | exact HB.out | apply below_alloc | apply pw_below_drewN | apply below_drew1 | refine below_set ?_ GE220.out | refine below_set ?_ GE221.out) | exact HB.out)) hb); clear BK220; clear BK221; clear HB; have BK220 := n0_; have BK221 := n1_; have HB := n2_; clear n0_ n1_ n2_; (try clear hb); (try clear hb2); (try clear hk); (try clear hi); have hnb16 := NB220_221.out; have hnc16 := NB221_220.out; have hcz17_0 : w15.cell? ⟨gb220, 0, none⟩ = some (.string a0_0) := (blk_cell BK220.out 0).trans rfl; have hcz17_1 : w15.cell? ⟨gb220, 1, none⟩ = some (.int .i64 a0_1) := (blk_cell BK220.out 1).trans rfl; have hcz17_2 : w15.cell? ⟨gb220, 2, none⟩ = some (.int .i64 a0_2) := (blk_cell BK220.out 2).trans rfl; have hcz17_3 : w15.cell? ⟨gb220, 3, none⟩ = some (.string a0_3) := (blk_cell BK220.out 3).trans rfl; have hcz17_4 : w15.cell? ⟨gb220, 4, none⟩ = some (.int .i64 a0_4) := (blk_cell BK220.out 4).trans rfl; have hcz17_5 : w15.cell? ⟨gb220, 5, none⟩ = some (.int .i64 a0_5) := (blk_cell BK220.out 5).trans rfl; have hcz17_6 : w15.cell? ⟨gb220, 6, none⟩ = some (.int .i64 a0_6) := (blk_cell BK220.out 6).trans rfl; have hcz17_7 : w15.cell? ⟨gb220, 7, none⟩ = some (.slice A0_7 l0_7.length c0_7) := (blk_cell BK220.out 7).trans rfl; have hcz17_8 : w15.cell? ⟨gb220, 8, none⟩ = some (.int .i64 a0_8) := (blk_cell BK220.out 8).trans rfl; have hcz17_9 : w15.cell? ⟨gb220, 9, none⟩ = some (.int .i64 a0_9) := (blk_cell BK220.out 9).trans rfl; have hcz17_10 : w15.cell? ⟨gb220, 10, none⟩ = some (.int .i64 a0_10) := (blk_cell BK220.out 10).trans rfl; have hcz17_11 : w15.cell? ⟨gb220, 11, none⟩ = some (.int .i64 a0_11) := (blk_cell BK220.out 11).trans rfl; have hfz17_0 := blk_frozen BK220.out 0; have hfz17_1 := blk_frozen BK220.out 1; have hfz17_2 := blk_frozen BK220.out 2; have hfz17_3 := blk_frozen BK220.out 3; have hfz17_4 := blk_frozen BK220.out 4; have hfz17_5 := blk_frozen BK220.out 5; have hfz17_6 := blk_frozen BK220.out 6; have hfz17_7 := blk_frozen BK220.out 7; have hfz17_8 := blk_frozen BK220.out 8; have hfz17_9 := blk_frozen BK220.out 9; have hfz17_10 := blk_frozen BK220.out 10; have hfz17_11 := blk_frozen BK220.out 11; have hcz18_0 : w15.cell? ⟨gb221, 0, none⟩ = some (.int .i64 a1_0) := (blk_cell BK221.out 0).trans rfl; have hcz18_1 : w15.cell? ⟨gb221, 1, none⟩ = some (.int .i64 a1_1) := (blk_cell BK221.out 1).trans rfl; have hcz18_2 : w15.cell? ⟨gb221, 2, none⟩ = some (.int .i64 a1_2) := (blk_cell BK221.out 2).trans rfl; have hfz18_0 := blk_frozen BK221.out 0; have hfz18_1 := blk_frozen BK221.out 1; have hfz18_2 := blk_frozen BK221.out 2) | ((with_reducible refine gate_callee (f := 8) rfl ?_); refine goesL_ (some 16) rfl rfl Try.func8 (by kernel_rfl) rfl #[.agg #[.string a0_0, .int .i64 a0_1, .int .i64 a0_2, .string a0_3, .int .i64 a0_4, .int .i64 a0_5, .int .i64 a0_6, .slice A0_7 l0_7.length c0_7, .int .i64 a0_8, .int .i64 a0_9, .int .i64 a0_10, .int .i64 a0_11], .agg #[.int .i64 a1_0, .int .i64 a1_1, .int .i64 a1_2], .slice A2 l2.length c2] rfl (by (try simp only [List.map_toArray, List.map_cons, List.map_nil]); first | done | rfl | (simp only [List.length_drop, List.length_take]; rfl)) ?_; (with_reducible refine (plenumref14_Fits.calls k a0_0 a0_1 a0_2 a0_3 a0_4 a0_5 a0_6 _ _ l0_7 a0_8 a0_9 a0_10 a0_11 a1_0 a1_1 a1_2 _ _ l2 true _ ?side1 ?side2 ?side3 ?side4 A6.out).mono ?_); (case side1 => repeat (first | exact (Kd.C_below HR0_7.out HB.out) | (with_reducible refine Kd.C_alloc ?_ _) | (with_reducible refine Kd.C_drewN ?_ _) | (with_reducible refine Kd.C_drew ?_))); (case side2 => exact HC0_7.out); (case side3 => repeat (first | exact (Kd.C_below HR2.out HB.out) | (with_reducible refine Kd.C_alloc ?_ _) | (with_reducible refine Kd.C_drewN ?_ _) | (with_reducible refine Kd.C_drew ?_))); (case side4 => exact HC2.out); rintro e w19 ⟨rfl, hb⟩; refine ⟨_, rfl, ?_⟩; have n0_ := Aside0.mk (blk_below (g := gb220) (o := .cells #[.string a0_0, .int .i64 a0_1, .int .i64 a0_2, .string a0_3, .int .i64 a0_4, .int .i64 a0_5, .int .i64 a0_6, .slice A0_7 l0_7.length c0_7, .int .i64 a0_8, .int .i64 a0_9, .int .i64 a0_10, .int .i64 a0_11] 26 (0, 0)) (by (with_reducible repeat (first | refine blk_drewN ?_ _ | refine blk_drew ?_ | refine blk_alloc ?_ _)); exact BK220.out) hb); have n1_ := Aside0.mk (blk_below (g := gb221) (o := .cells #[.int .i64 a1_0, .int .i64 a1_1, .int .i64 a1_2] 28 (0, 0)) (by (with_reducible repeat (first | refine blk_drewN ?_ _ | refine blk_drew ?_ | refine blk_alloc ?_ _)); exact BK221.out) hb); have n2_ := Aside0.mk (below_step (by repeat (first | (with_reducible first | exact HB.out | apply below_alloc | apply pw_below_drewN | apply below_drew1 | refine below_set ?_ GE220.out | refine below_set ?_ GE221.out) | exact HB.out)) hb); clear BK220; clear BK221; clear HB; have BK220 := n0_; have BK221 := n1_; have HB := n2_; clear n0_ n1_ n2_; (try clear hb); (try clear hb2); (try clear hk); (try clear hi)))
        have n0_ := Aside0.mk (blk_drew BK220.out)
        have n1_ := Aside0.mk (blk_drew BK221.out)
        have n2_ := Aside0.mk (below_drew1 HB.out)
        clear BK220
        clear BK221
        clear HB
        have BK220 := n0_
        have BK221 := n1_
        have HB := n2_
        clear n0_ n1_ n2_
        refine start_ (n := 10) (S := fun w' => w'.cell? ⟨gb220, 0, none⟩ = some (.string a0_0) ∧ w'.cell? ⟨gb220, 1, none⟩ = some (.int .i64 a0_1) ∧ w'.cell? ⟨gb220, 2, none⟩ = some (.int .i64 a0_2) ∧ w'.cell? ⟨gb220, 3, none⟩ = some (.string a0_3) ∧ w'.cell? ⟨gb220, 4, none⟩ = some (.int .i64 a0_4) ∧ w'.cell? ⟨gb220, 5, none⟩ = some (.int .i64 a0_5) ∧ w'.cell? ⟨gb220, 6, none⟩ = some (.int .i64 a0_6) ∧ w'.cell? ⟨gb220, 7, none⟩ = some (.slice A0_7 l0_7.length c0_7) ∧ w'.cell? ⟨gb220, 8, none⟩ = some (.int .i64 a0_8) ∧ w'.cell? ⟨gb220, 9, none⟩ = some (.int .i64 a0_9) ∧ w'.cell? ⟨gb220, 10, none⟩ = some (.int .i64 a0_10) ∧ w'.cell? ⟨gb220, 11, none⟩ = some (.int .i64 a0_11) ∧ w'.cell? ⟨gb221, 0, none⟩ = some (.int .i64 a1_0) ∧ w'.cell? ⟨gb221, 1, none⟩ = some (.int .i64 a1_1) ∧ w'.cell? ⟨gb221, 2, none⟩ = some (.int .i64 a1_2)) (ds := []) #[false, false, false, false, false, false, false, false, false, false] (by kernel_rfl) rfl rfl ⟨(blk_cell BK220.out 0).trans rfl, (blk_cell BK220.out 1).trans rfl, (blk_cell BK220.out 2).trans rfl, (blk_cell BK220.out 3).trans rfl, (blk_cell BK220.out 4).trans rfl, (blk_cell BK220.out 5).trans rfl, (blk_cell BK220.out 6).trans rfl, (blk_cell BK220.out 7).trans rfl, (blk_cell BK220.out 8).trans rfl, (blk_cell BK220.out 9).trans rfl, (blk_cell BK220.out 10).trans rfl, (blk_cell BK220.out 11).trans rfl, (blk_cell BK221.out 0).trans rfl, (blk_cell BK221.out 1).trans rfl, (blk_cell BK221.out 2).trans rfl⟩ (fun hHeld => ?_); refine with_tabW plenumlaw14_MinimumReplays.tab5 plenumlaw14_MinimumReplays.bits5 (fun HT_ HW_ => ?_)
        generalize w19.drew = w20 at BK220 BK221 HB hHeld ⊢
        refine pure_ (i := 2) (N := some 21) (v := ?_) (a' := ?_) #[false, false, true, false, false, false, false, false, false, false] rfl rfl (any_of HT_.out (by kernel_rfl)) (fun _ _ _ h => h) (Or.inl ⟨by rfl, ?_⟩) ?_ ?_
        rotate_left
        · intro w'
          go_simp
          with_reducible rfl
        rotate_left
        · simp only [Act.put, List.setIfInBounds_toArray, List.set_cons_zero, List.set_cons_succ, i64_w, i32_w]
          rfl
        refine take_ (i := 0) (N := some 19) (v := ?_) (a' := ?_) #[true, false, true, false, false, false, false, false, false, false] rfl rfl (take_ofW HT_.out HW_.out (by kernel_rfl)) (fun _ _ _ h => h) (Or.inl ⟨by rfl, ?_⟩) hHeld ?_ ?_
        rotate_left
        · rintro w' ⟨s0, s1, s2, s3, s4, s5, s6, s7, s8, s9, s10, s11, s12, s13, s14⟩
          go_simp
          with_reducible rfl
        rotate_left
        · simp only [Act.put, List.setIfInBounds_toArray, List.set_cons_zero, List.set_cons_succ, i64_w, i32_w]
          rfl
        refine take_ (i := 1) (N := some 20) (v := ?_) (a' := ?_) #[true, true, true, false, false, false, false, false, false, false] rfl rfl (take_ofW HT_.out HW_.out (by kernel_rfl)) (fun _ _ _ h => h) (Or.inl ⟨by rfl, ?_⟩) hHeld ?_ ?_
        rotate_left
        · rintro w' ⟨s0, s1, s2, s3, s4, s5, s6, s7, s8, s9, s10, s11, s12, s13, s14⟩
          go_simp
          with_reducible rfl
        rotate_left
        · simp only [Act.put, List.setIfInBounds_toArray, List.set_cons_zero, List.set_cons_succ, i64_w, i32_w]
          rfl
        refine one_ (i := 3) (N := some 22) #[true, true, true, true, false, false, false, false, false, false] rfl rfl (one_of HT_.out (by kernel_rfl)) (by decide) (fun K hK => ?_)
        refine goes_ Try.func14 (by kernel_rfl) rfl #[.slice A2 l2.length c2] (by rfl) rfl rfl (by (try simp only [List.map_toArray, List.map_cons, List.map_nil]); first | done | rfl | (simp only [List.length_drop, List.length_take]; rfl)) ?_
        with_reducible refine (plenumlaw14_ours.calls k _ _ l2 t224 _ ?side1 ?side2 A8.out).mono ?_
        (case side1 => repeat (first | exact (Kd.C_below HR2.out HB.out) | (with_reducible refine Kd.C_alloc ?_ _) | (with_reducible refine Kd.C_drewN ?_ _) | (with_reducible refine Kd.C_drew ?_)))
        (case side2 => exact HC2.out)
        rintro e w21 ⟨v225, rfl, ho0, hb⟩
        refine ⟨_, rfl, ?_⟩
        have n0_ := Aside0.mk (Kd.R_lower ho0 (below_size (by repeat (first | (with_reducible first | exact HB.out | apply below_alloc | apply pw_below_drewN | apply below_drew1 | refine below_set ?_ GE220.out | refine below_set ?_ GE221.out) | exact HB.out))))
        have n1_ := Aside0.mk (blk_below (g := gb220) (o := .cells #[.string a0_0, .int .i64 a0_1, .int .i64 a0_2, .string a0_3, .int .i64 a0_4, .int .i64 a0_5, .int .i64 a0_6, .slice A0_7 l0_7.length c0_7, .int .i64 a0_8, .int .i64 a0_9, .int .i64 a0_10, .int .i64 a0_11] 26 (0, 0)) (by (with_reducible repeat (first | refine blk_drewN ?_ _ | refine blk_drew ?_ | refine blk_alloc ?_ _)); exact BK220.out) hb)
        have n2_ := Aside0.mk (blk_below (g := gb221) (o := .cells #[.int .i64 a1_0, .int .i64 a1_1, .int .i64 a1_2] 28 (0, 0)) (by (with_reducible repeat (first | refine blk_drewN ?_ _ | refine blk_drew ?_ | refine blk_alloc ?_ _)); exact BK221.out) hb)
        have n3_ := Aside0.mk (below_step (by repeat (first | (with_reducible first | exact HB.out | apply below_alloc | apply pw_below_drewN | apply below_drew1 | refine below_set ?_ GE220.out | refine below_set ?_ GE221.out) | exact HB.out)) hb)
        clear BK220
        clear BK221
        clear HB
        have HO226 := n0_
        have BK220 := n1_
        have BK221 := n2_
        have HB := n3_
        clear n0_ n1_ n2_ n3_
        (try clear hb)
        (try clear hb2)
        (try clear hk)
        (try clear hi)
        (try clear ho0)
        obtain ⟨Ao22, co22, eo22⟩ := Kd.R_slice HO226.out
        (first | subst eo22 | (injection eo22 with f1_ f2_ f3_; have f4_ := f1_.symm; have f5_ := f3_.symm; clear f1_ f2_ f3_; subst f4_; subst f5_))
        refine hK.out _ _ ⟨(blk_cell BK220.out 0).trans rfl, (blk_cell BK220.out 1).trans rfl, (blk_cell BK220.out 2).trans rfl, (blk_cell BK220.out 3).trans rfl, (blk_cell BK220.out 4).trans rfl, (blk_cell BK220.out 5).trans rfl, (blk_cell BK220.out 6).trans rfl, (blk_cell BK220.out 7).trans rfl, (blk_cell BK220.out 8).trans rfl, (blk_cell BK220.out 9).trans rfl, (blk_cell BK220.out 10).trans rfl, (blk_cell BK220.out 11).trans rfl, (blk_cell BK221.out 0).trans rfl, (blk_cell BK221.out 1).trans rfl, (blk_cell BK221.out 2).trans rfl⟩ (fun hHeld => ?_)
        clear hK K
        refine norm_ (a' := ?_) ?_ ?_
        rotate_left
        · show Act.put _ (some 22) _ = _
          simp only [Act.put, List.setIfInBounds_toArray, List.set_cons_zero, List.set_cons_succ, i64_w, i32_w]
          rfl
        refine one_ (i := 4) (N := some 23) #[true, true, true, true, true, false, false, false, false, false] rfl rfl (one_of HT_.out (by kernel_rfl)) (by decide) (fun K hK => ?_)
        refine goes_ Try.func13 (by kernel_rfl) rfl #[.agg #[.string a0_0, .int .i64 a0_1, .int .i64 a0_2, .string a0_3, .int .i64 a0_4, .int .i64 a0_5, .int .i64 a0_6, .slice A0_7 l0_7.length c0_7, .int .i64 a0_8, .int .i64 a0_9, .int .i64 a0_10, .int .i64 a0_11], .agg #[.int .i64 a1_0, .int .i64 a1_1, .int .i64 a1_2], .slice Ao22 t224.length co22] (by rfl) rfl rfl (by (try simp only [List.map_toArray, List.map_cons, List.map_nil]); first | done | rfl | (simp only [List.length_drop, List.length_take]; rfl)) ?_
        with_reducible refine (minimum_Replay.calls k a0_0 a0_1 a0_2 a0_3 a0_4 a0_5 a0_6 _ _ l0_7 a0_8 a0_9 a0_10 a0_11 a1_0 a1_1 a1_2 _ _ t224 t227 t230 _ ?side1 ?side2 ?side3 ?side4 A9.out).mono ?_
        (case side1 => repeat (first | exact (Kd.C_below HR0_7.out HB.out) | (with_reducible refine Kd.C_alloc ?_ _) | (with_reducible refine Kd.C_drewN ?_ _) | (with_reducible refine Kd.C_drew ?_)))
        (case side2 => exact HC0_7.out)
        (case side3 => repeat (first | exact (Kd.R_reads' HO226.out).2.2 | (with_reducible refine Kd.C_alloc ?_ _) | (with_reducible refine Kd.C_drewN ?_ _) | (with_reducible refine Kd.C_drew ?_)))
        (case side4 => exact (Kd.R_reads' HO226.out).2.1)
        rintro e w23 ⟨v228, rfl, ho0, hb⟩
        refine ⟨_, rfl, ?_⟩
        have n0_ := Aside0.mk (Kd.R_below (by (with_reducible repeat (first | apply Kd.R_alloc | apply Kd.R_drewN | apply Kd.R_drew)); exact HO226.out) hb)
        have n1_ := Aside0.mk (Kd.R_lower (Kd.R_newB ho0 (g := gb221) (o := .cells #[.int .i64 a1_0, .int .i64 a1_1, .int .i64 a1_2] 28 (0, 0)) (by (with_reducible repeat (first | refine blk_drewN ?_ _ | refine blk_drew ?_ | refine blk_alloc ?_ _)); exact BK221.out)) (below_size (by repeat (first | (with_reducible first | exact HB.out | apply below_alloc | apply pw_below_drewN | apply below_drew1 | refine below_set ?_ GE220.out | refine below_set ?_ GE221.out) | exact HB.out))))
        have n2_ := Aside0.mk (blk_below (g := gb220) (o := .cells #[.string a0_0, .int .i64 a0_1, .int .i64 a0_2, .string a0_3, .int .i64 a0_4, .int .i64 a0_5, .int .i64 a0_6, .slice A0_7 l0_7.length c0_7, .int .i64 a0_8, .int .i64 a0_9, .int .i64 a0_10, .int .i64 a0_11] 26 (0, 0)) (by (with_reducible repeat (first | refine blk_drewN ?_ _ | refine blk_drew ?_ | refine blk_alloc ?_ _)); exact BK220.out) hb)
        have n3_ := Aside0.mk (blk_below (g := gb221) (o := .cells #[.int .i64 a1_0, .int .i64 a1_1, .int .i64 a1_2] 28 (0, 0)) (by (with_reducible repeat (first | refine blk_drewN ?_ _ | refine blk_drew ?_ | refine blk_alloc ?_ _)); exact BK221.out) hb)
        have n4_ := Aside0.mk (below_step (by repeat (first | (with_reducible first | exact HB.out | apply below_alloc | apply pw_below_drewN | apply below_drew1 | refine below_set ?_ GE220.out | refine below_set ?_ GE221.out) | exact HB.out)) hb)
        clear HO226
        clear BK220
        clear BK221
        clear HB
        have HO226 := n0_
        have HO229 := n1_
        have BK220 := n2_
        have BK221 := n3_
        have HB := n4_
        clear n0_ n1_ n2_ n3_ n4_
        (try clear hb)
        (try clear hb2)
        (try clear hk)
        (try clear hi)
        (try clear ho0)
        refine hK.out _ _ ⟨(blk_cell BK220.out 0).trans rfl, (blk_cell BK220.out 1).trans rfl, (blk_cell BK220.out 2).trans rfl, (blk_cell BK220.out 3).trans rfl, (blk_cell BK220.out 4).trans rfl, (blk_cell BK220.out 5).trans rfl, (blk_cell BK220.out 6).trans rfl, (blk_cell BK220.out 7).trans rfl, (blk_cell BK220.out 8).trans rfl, (blk_cell BK220.out 9).trans rfl, (blk_cell BK220.out 10).trans rfl, (blk_cell BK220.out 11).trans rfl, (blk_cell BK221.out 0).trans rfl, (blk_cell BK221.out 1).trans rfl, (blk_cell BK221.out 2).trans rfl⟩ (fun hHeld => ?_)
        clear hK K
        refine norm_ (a' := ?_) ?_ ?_
        rotate_left
        · show Act.put _ (some 23) _ = _
          simp only [Act.put, List.setIfInBounds_toArray, List.set_cons_zero, List.set_cons_succ, i64_w, i32_w]
          rfl
        refine pure_ (i := 5) (N := some 18) (v := ?_) (a' := ?_) #[true, true, true, true, true, true, false, false, false, false] rfl rfl (any_of HT_.out (by kernel_rfl)) (fun _ _ _ h => h) (Or.inl ⟨by rfl, ?_⟩) ?_ ?_
        rotate_left
        · intro w'
          go_simp
          with_reducible rfl
        rotate_left
        · simp only [Act.put, List.setIfInBounds_toArray, List.set_cons_zero, List.set_cons_succ, i64_w, i32_w]
          rfl
        refine pure_ (i := 6) (N := some 24) (v := ?_) (a' := ?_) #[true, true, true, true, true, true, true, false, false, false] rfl rfl (any_of HT_.out (by kernel_rfl)) (fun _ _ _ h => h) (Or.inl ⟨by rfl, ?_⟩) ?_ ?_
        rotate_left
        · intro w'
          go_simp
          with_reducible rfl
        rotate_left
        · simp only [Act.put, List.setIfInBounds_toArray, List.set_cons_zero, List.set_cons_succ, i64_w, i32_w]
          rfl
        refine pure_ (i := 7) (N := some 25) (v := ?_) (a' := ?_) #[true, true, true, true, true, true, true, true, false, false] rfl rfl (any_of HT_.out (by kernel_rfl)) (fun _ _ _ h => h) (Or.inl ⟨by rfl, ?_⟩) ?_ ?_
        rotate_left
        · intro w'
          go_simp
          with_reducible rfl
        rotate_left
        · simp only [Act.put, List.setIfInBounds_toArray, List.set_cons_zero, List.set_cons_succ, i64_w, i32_w]
          rfl
        refine pure_ (i := 8) (N := some 7) (v := ?_) (a' := ?_) #[true, true, true, true, true, true, true, true, true, false] rfl rfl (any_of HT_.out (by kernel_rfl)) (fun _ _ _ h => h) (Or.inl ⟨by rfl, ?_⟩) ?_ ?_
        rotate_left
        · intro w'
          go_simp
          with_reducible rfl
        rotate_left
        · simp only [Act.put, List.setIfInBounds_toArray, List.set_cons_zero, List.set_cons_succ, i64_w, i32_w]
          rfl
        refine pure_ (i := 9) (N := some 8) (v := ?_) (a' := ?_) #[true, true, true, true, true, true, true, true, true, true] rfl rfl (any_of HT_.out (by kernel_rfl)) (fun _ _ _ h => h) (Or.inl ⟨by rfl, ?_⟩) ?_ ?_
        rotate_left
        · intro w'
          go_simp
          with_reducible rfl
        rotate_left
        · simp only [Act.put, List.setIfInBounds_toArray, List.set_cons_zero, List.set_cons_succ, i64_w, i32_w]
          rfl
        refine done_ (done_of HT_.out (by kernel_rfl)) ?_
        have hcz24_0 : w23.cell? ⟨gb220, 0, none⟩ = some (.string a0_0) := (blk_cell BK220.out 0).trans rfl
        have hcz24_1 : w23.cell? ⟨gb220, 1, none⟩ = some (.int .i64 a0_1) := (blk_cell BK220.out 1).trans rfl
        have hcz24_2 : w23.cell? ⟨gb220, 2, none⟩ = some (.int .i64 a0_2) := (blk_cell BK220.out 2).trans rfl
        have hcz24_3 : w23.cell? ⟨gb220, 3, none⟩ = some (.string a0_3) := (blk_cell BK220.out 3).trans rfl
        have hcz24_4 : w23.cell? ⟨gb220, 4, none⟩ = some (.int .i64 a0_4) := (blk_cell BK220.out 4).trans rfl
        have hcz24_5 : w23.cell? ⟨gb220, 5, none⟩ = some (.int .i64 a0_5) := (blk_cell BK220.out 5).trans rfl
        have hcz24_6 : w23.cell? ⟨gb220, 6, none⟩ = some (.int .i64 a0_6) := (blk_cell BK220.out 6).trans rfl
        have hcz24_7 : w23.cell? ⟨gb220, 7, none⟩ = some (.slice A0_7 l0_7.length c0_7) := (blk_cell BK220.out 7).trans rfl
        have hcz24_8 : w23.cell? ⟨gb220, 8, none⟩ = some (.int .i64 a0_8) := (blk_cell BK220.out 8).trans rfl
        have hcz24_9 : w23.cell? ⟨gb220, 9, none⟩ = some (.int .i64 a0_9) := (blk_cell BK220.out 9).trans rfl
        have hcz24_10 : w23.cell? ⟨gb220, 10, none⟩ = some (.int .i64 a0_10) := (blk_cell BK220.out 10).trans rfl
        have hcz24_11 : w23.cell? ⟨gb220, 11, none⟩ = some (.int .i64 a0_11) := (blk_cell BK220.out 11).trans rfl
        have hfz24_0 := blk_frozen BK220.out 0
        have hfz24_1 := blk_frozen BK220.out 1
        have hfz24_2 := blk_frozen BK220.out 2
        have hfz24_3 := blk_frozen BK220.out 3
        have hfz24_4 := blk_frozen BK220.out 4
        have hfz24_5 := blk_frozen BK220.out 5
        have hfz24_6 := blk_frozen BK220.out 6
        have hfz24_7 := blk_frozen BK220.out 7
        have hfz24_8 := blk_frozen BK220.out 8
        have hfz24_9 := blk_frozen BK220.out 9
        have hfz24_10 := blk_frozen BK220.out 10
        have hfz24_11 := blk_frozen BK220.out 11
        have hcz25_0 : w23.cell? ⟨gb221, 0, none⟩ = some (.int .i64 a1_0) := (blk_cell BK221.out 0).trans rfl
        have hcz25_1 : w23.cell? ⟨gb221, 1, none⟩ = some (.int .i64 a1_1) := (blk_cell BK221.out 1).trans rfl
        have hcz25_2 : w23.cell? ⟨gb221, 2, none⟩ = some (.int .i64 a1_2) := (blk_cell BK221.out 2).trans rfl
        have hfz25_0 := blk_frozen BK221.out 0
        have hfz25_1 := blk_frozen BK221.out 1
        have hfz25_2 := blk_frozen BK221.out 2
        try go_wp2_with (first | ((with_reducible refine gate_callee (f := 15) rfl ?_); refine goesL_ (some 30) rfl rfl Try.func15 (by kernel_rfl) rfl #[.agg #[.string a0_0, .int .i64 a0_1, .int .i64 a0_2, .string a0_3, .int .i64 a0_4, .int .i64 a0_5, .int .i64 a0_6, .slice A0_7 l0_7.length c0_7, .int .i64 a0_8, .int .i64 a0_9, .int .i64 a0_10, .int .i64 a0_11], .agg #[.int .i64 a1_0, .int .i64 a1_1, .int .i64 a1_2], .slice A2 l2.length c2] rfl (by (try simp only [List.map_toArray, List.map_cons, List.map_nil]); first | done | rfl | (simp only [List.length_drop, List.length_take]; rfl)) ?_; (with_reducible refine (plenumref14_Replay.calls k a0_0 a0_1 a0_2 a0_3 a0_4 a0_5 a0_6 _ _ l0_7 a0_8 a0_9 a0_10 a0_11 a1_0 a1_1 a1_2 _ _ l2 t231 t234 _ ?side1 ?side2 ?side3 ?side4 A10.out).mono ?_); (case side1 => repeat (first | exact (Kd.C_below HR0_7.out HB.out) | (with_reducible refine Kd.C_alloc ?_ _) | (with_reducible refine Kd.C_drewN ?_ _) | (with_reducible refine Kd.C_drew ?_))); (case side2 => exact HC0_7.out); (case side3 => repeat (first | exact (Kd.C_below HR2.out HB.out) | (with_reducible refine Kd.C_alloc ?_ _) | (with_reducible refine Kd.C_drewN ?_ _) | (with_reducible refine Kd.C_drew ?_))); (case side4 => exact HC2.out); rintro e w26 ⟨v232, rfl, ho0, hb⟩; refine ⟨_, rfl, ?_⟩; have n0_ := Aside0.mk (Kd.R_below (by (with_reducible repeat (first | apply Kd.R_alloc | apply Kd.R_drewN | apply Kd.R_drew)); exact HO226.out) hb); have n1_ := Aside0.mk (Kd.R_elder' (by (with_reducible repeat (first | apply Kd.R_alloc | apply Kd.R_drewN | apply Kd.R_drew)); exact HO229.out) (Kd.R_base ho0) hb); have n2_ := Aside0.mk (Kd.R_lower (Kd.R_newB (Kd.R_new' ho0 (Kd.R_lt (by (with_reducible repeat (first | apply Kd.R_alloc | apply Kd.R_drewN | apply Kd.R_drew)); exact HO229.out))) (g := gb221) (o := .cells #[.int .i64 a1_0, .int .i64 a1_1, .int .i64 a1_2] 28 (0, 0)) (by (with_reducible repeat (first | refine blk_drewN ?_ _ | refine blk_drew ?_ | refine blk_alloc ?_ _)); exact BK221.out)) (below_size (by repeat (first | (with_reducible first | exact HB.out | apply below_alloc | apply pw_below_drewN | apply below_drew1 | refine below_set ?_ GE220.out | refine below_set ?_ GE221.out) | exact HB.out)))); have n3_ := Aside0.mk (blk_below (g := gb220) (o := .cells #[.string a0_0, .int .i64 a0_1, .int .i64 a0_2, .string a0_3, .int .i64 a0_4, .int .i64 a0_5, .int .i64 a0_6, .slice A0_7 l0_7.length c0_7, .int .i64 a0_8, .int .i64 a0_9, .int .i64 a0_10, .int .i64 a0_11] 26 (0, 0)) (by (with_reducible repeat (first | refine blk_drewN ?_ _ | refine blk_drew ?_ | refine blk_alloc ?_ _)); exact BK220.out) hb); have n4_ := Aside0.mk (blk_below (g := gb221) (o := .cells #[.int .i64 a1_0, .int .i64 a1_1, .int .i64 a1_2] 28 (0, 0)) (by (with_reducible repeat (first | refine blk_drewN ?_ _ | refine blk_drew ?_ | refine blk_alloc ?_ _)); exact BK221.out) hb); have n5_ := Aside0.mk (below_step (by repeat (first | (with_reducible first | exact HB.out | apply below_alloc | apply pw_below_drewN | apply below_drew1 | refine below_set ?_ GE220.out | refine below_set ?_ GE221.out) | exact HB.out)) hb); clear HO226; clear HO229; clear BK220; clear BK221; clear HB; have HO226 := n0_; have HO229 := n1_; have HO233 := n2_; have BK220 := n3_; have BK221 := n4_; have HB := n5_; clear n0_ n1_ n2_ n3_ n4_ n5_; (try clear hb); (try clear hb2); (try clear hk); (try clear hi); (try clear ho0); obtain ⟨Ao27, co27, eo27⟩ := Kd.R_slice HO229.out; subst eo27; obtain ⟨Ao28, co28, eo28⟩ := Kd.R_slice HO233.out; subst eo28) | (go_at_call 16; (with_reducible refine (plenumref14_Same.calls k _ _ t227 _ _ t231 t235 _ ?side1 ?side2 ?side3 ?side4 A12.out).mono ?_); (case side1 => repeat (first | exact (Kd.R_reads' HO229.out).2.2 | (with_reducible refine Kd.C_alloc ?_ _) | (with_reducible refine Kd.C_drewN ?_ _) | (with_reducible refine Kd.C_drew ?_))); (case side2 => exact (Kd.R_reads' HO229.out).2.1); (case side3 => repeat (first | exact (Kd.R_reads' HO233.out).2.2 | (with_reducible refine Kd.C_alloc ?_ _) | (with_reducible refine Kd.C_drewN ?_ _) | (with_reducible refine Kd.C_drew ?_))); (case side4 => exact (Kd.R_reads' HO233.out).2.1); rintro e w' ⟨rfl, ⟨nd, rfl⟩⟩))
        go_ret
        exact ⟨by first | rfl | (simp [errW_none, errW_some] <;> rfl) | (simp [*, errW_none, errW_some] <;> rfl), by repeat (first | (with_reducible first | exact HB.out | apply below_alloc | apply pw_below_drewN | apply below_drew1 | refine below_set ?_ GE220.out | refine below_set ?_ GE221.out) | exact HB.out)⟩
      · rw [if_neg c11] at H
        exact absurd H (by simp)
    · replace c7 := Bool.eq_false_iff.mpr c7
      subst c7
      have H1 : (some true) = some r := by rw [if_neg (show ¬ (false = true) by decide)] at H; exact H
      clear H
      have H := H1
      clear H1
      obtain rfl := Option.some.inj H
      go_enter Try.func5, Try.ntmps5
      go_wp2_with (first | ((with_reducible refine gate_dst (N := 3) rfl ?_); refine box_event ?hg (N := 3) ?hd (cs := #[.string a0_0, .int .i64 a0_1, .int .i64 a0_2, .string a0_3, .int .i64 a0_4, .int .i64 a0_5, .int .i64 a0_6, .slice A0_7 l0_7.length c0_7, .int .i64 a0_8, .int .i64 a0_9, .int .i64 a0_10, .int .i64 a0_11]) (t := 26) ?hr ?_; (case hd => rfl); (case hg => rfl); (case hr => first | (go_simp; done) | (go_simp; rfl)); intro gb220 hg w29 hbox hb; have n0_ := Aside0.mk (below_step (by repeat (first | (with_reducible first | exact HB.out | apply below_alloc | apply pw_below_drewN | apply below_drew1) | exact HB.out)) hb); have n1_ := Aside0.mk (hbox); have n2_ := Aside0.mk ((by rw [hg]; exact (below_size (by repeat (first | (with_reducible first | exact HB.out | apply below_alloc | apply pw_below_drewN | apply below_drew1) | exact HB.out))) : w.heap.size ≤ gb220)); have n3_ := Aside0.mk ((by rw [hg]; exact (below_size (by repeat (first | (with_reducible first | exact HB.out | apply below_alloc | apply pw_below_drewN | apply below_drew1) | exact HB.out))) : w.heap.size ≤ gb220)); clear HB; have HB := n0_; have BK220 := n1_; have GW220 := n2_; have GE220 := n3_; clear n0_ n1_ n2_ n3_; clear hb hbox hg) | ((with_reducible refine gate_dst (N := 4) rfl ?_); refine box_event ?hg (N := 4) ?hd (cs := #[.int .i64 a1_0, .int .i64 a1_1, .int .i64 a1_2]) (t := 28) ?hr ?_; (case hd => rfl); (case hg => rfl); (case hr => first | (go_simp; done) | (go_simp; rfl)); intro gb221 hg w30 hbox hb; have n0_ := Aside0.mk (blk_below (g := gb220) (o := .cells #[.string a0_0, .int .i64 a0_1, .int .i64 a0_2, .string a0_3, .int .i64 a0_4, .int .i64 a0_5, .int .i64 a0_6, .slice A0_7 l0_7.length c0_7, .int .i64 a0_8, .int .i64 a0_9, .int .i64 a0_10, .int .i64 a0_11] 26 (0, 0)) (by (with_reducible repeat (first | refine blk_drewN ?_ _ | refine blk_drew ?_ | refine blk_alloc ?_ _)); exact BK220.out) hb); have n1_ := Aside0.mk (below_step (by repeat (first | (with_reducible first | exact HB.out | apply below_alloc | apply pw_below_drewN | apply below_drew1 | refine below_set ?_ GE220.out) | exact HB.out)) hb); have n2_ := Aside0.mk (hbox); have n3_ := Aside0.mk ((by rw [hg]; exact (below_size (by repeat (first | (with_reducible first | exact HB.out | apply below_alloc | apply pw_below_drewN | apply below_drew1 | refine below_set ?_ GE220.out) | exact HB.out))) : w.heap.size ≤ gb221)); have n4_ := Aside0.mk ((by rw [hg]; exact (below_size (by repeat (first | (with_reducible first | exact HB.out | apply below_alloc | apply pw_below_drewN | apply below_drew1 | refine below_set ?_ GE220.out) | exact HB.out))) : w.heap.size ≤ gb221)); have n5_ := Aside0.mk ((by rw [hg]; exact Nat.ne_of_lt (blk_lt (g := gb220) (o := .cells #[.string a0_0, .int .i64 a0_1, .int .i64 a0_2, .string a0_3, .int .i64 a0_4, .int .i64 a0_5, .int .i64 a0_6, .slice A0_7 l0_7.length c0_7, .int .i64 a0_8, .int .i64 a0_9, .int .i64 a0_10, .int .i64 a0_11] 26 (0, 0)) (by (with_reducible repeat (first | refine blk_drewN ?_ _ | refine blk_drew ?_ | refine blk_alloc ?_ _)); exact BK220.out)) : gb220 ≠ gb221)); have n6_ := Aside0.mk ((by rw [hg]; exact Nat.ne_of_gt (blk_lt (g := gb220) (o := .cells #[.string a0_0, .int .i64 a0_1, .int .i64 a0_2, .string a0_3, .int .i64 a0_4, .int .i64 a0_5, .int .i64 a0_6, .slice A0_7 l0_7.length c0_7, .int .i64 a0_8, .int .i64 a0_9, .int .i64 a0_10, .int .i64 a0_11] 26 (0, 0)) (by (with_reducible repeat (first | refine blk_drewN ?_ _ | refine blk_drew ?_ | refine blk_alloc ?_ _)); exact BK220.out)) : gb221 ≠ gb220)); clear BK220; clear HB; have BK220 := n0_; have HB := n1_; have BK221 := n2_; have GW221 := n3_; have GE221 := n4_; have NB220_221 := n5_; have NB221_220 := n6_; clear n0_ n1_ n2_ n3_ n4_ n5_ n6_; clear hb hbox hg) | ((with_reducible refine gate_callee (f := 7) rfl ?_); refine goesL_ (some 11) rfl rfl Try.func7 (by kernel_rfl) rfl #[] rfl (by (try simp only [List.map_toArray, List.map_cons, List.map_nil]); first | done | rfl | (simp only [List.length_drop, List.length_take]; rfl)) ?_; (with_reducible refine (plenumlaw14_awake.calls k  true _ A4.out).mono ?_); rintro e w31 ⟨rfl, hb⟩; refine ⟨_, rfl, ?_⟩; have n0_ := Aside0.mk (blk_below (g := gb220) (o := .cells #[.string a0_0, .int .i64 a0_1, .int .i64 a0_2, .string a0_3, .int .i64 a0_4, .int .i64 a0_5, .int .i64 a0_6, .slice A0_7 l0_7.length c0_7, .int .i64 a0_8, .int .i64 a0_9, .int .i64 a0_10, .int .i64 a0_11] 26 (0, 0)) (by (with_reducible repeat (first | refine blk_drewN ?_ _ | refine blk_drew ?_ | refine blk_alloc ?_ _)); exact BK220.out) hb); have n1_ := Aside0.mk (blk_below (g := gb221) (o := .cells #[.int .i64 a1_0, .int .i64 a1_1, .int .i64 a1_2] 28 (0, 0)) (by (with_reducible repeat (first | refine blk_drewN ?_ _ | refine blk_drew ?_ | refine blk_alloc ?_ _)); exact BK221.out) hb); have n2_ := Aside0.mk (below_step (by repeat (first | (with_reducible first | exact HB.out | apply below_alloc | apply pw_below_drewN | apply below_drew1 | refine below_set ?_ GE220.out | refine below_set ?_ GE221.out) | exact HB.out)) hb); clear BK220; clear BK221; clear HB; have BK220 := n0_; have BK221 := n1_; have HB := n2_; clear n0_ n1_ n2_; (try clear hb); (try clear hb2); (try clear hk); (try clear hi); have hnb32 := NB220_221.out; have hnc32 := NB221_220.out; have hcz33_0 : w31.cell? ⟨gb220, 0, none⟩ = some (.string a0_0) := (blk_cell BK220.out 0).trans rfl; have hcz33_1 : w31.cell? ⟨gb220, 1, none⟩ = some (.int .i64 a0_1) := (blk_cell BK220.out 1).trans rfl; have hcz33_2 : w31.cell? ⟨gb220, 2, none⟩ = some (.int .i64 a0_2) := (blk_cell BK220.out 2).trans rfl; have hcz33_3 : w31.cell? ⟨gb220, 3, none⟩ = some (.string a0_3) := (blk_cell BK220.out 3).trans rfl; have hcz33_4 : w31.cell? ⟨gb220, 4, none⟩ = some (.int .i64 a0_4) := (blk_cell BK220.out 4).trans rfl; have hcz33_5 : w31.cell? ⟨gb220, 5, none⟩ = some (.int .i64 a0_5) := (blk_cell BK220.out 5).trans rfl; have hcz33_6 : w31.cell? ⟨gb220, 6, none⟩ = some (.int .i64 a0_6) := (blk_cell BK220.out 6).trans rfl; have hcz33_7 : w31.cell? ⟨gb220, 7, none⟩ = some (.slice A0_7 l0_7.length c0_7) := (blk_cell BK220.out 7).trans rfl; have hcz33_8 : w31.cell? ⟨gb220, 8, none⟩ = some (.int .i64 a0_8) := (blk_cell BK220.out 8).trans rfl; have hcz33_9 : w31.cell? ⟨gb220, 9, none⟩ = some (.int .i64 a0_9) := (blk_cell BK220.out 9).trans rfl; have hcz33_10 : w31.cell? ⟨gb220, 10, none⟩ = some (.int .i64 a0_10) := (blk_cell BK220.out 10).trans rfl; have hcz33_11 : w31.cell? ⟨gb220, 11, none⟩ = some (.int .i64 a0_11) := (blk_cell BK220.out 11).trans rfl; have hfz33_0 := blk_frozen BK220.out 0; have hfz33_1 := blk_frozen BK220.out 1; have hfz33_2 := blk_frozen BK220.out 2; have hfz33_3 := blk_frozen BK220.out 3; have hfz33_4 := blk_frozen BK220.out 4; have hfz33_5 := blk_frozen BK220.out 5; have hfz33_6 := blk_frozen BK220.out 6; have hfz33_7 := blk_frozen BK220.out 7; have hfz33_8 := blk_frozen BK220.out 8; have hfz33_9 := blk_frozen BK220.out 9; have hfz33_10 := blk_frozen BK220.out 10; have hfz33_11 := blk_frozen BK220.out 11; have hcz34_0 : w31.cell? ⟨gb221, 0, none⟩ = some (.int .i64 a1_0) := (blk_cell BK221.out 0).trans rfl; have hcz34_1 : w31.cell? ⟨gb221, 1, none⟩ = some (.int .i64 a1_1) := (blk_cell BK221.out 1).trans rfl; have hcz34_2 : w31.cell? ⟨gb221, 2, none⟩ = some (.int .i64 a1_2) := (blk_cell BK221.out 2).trans rfl; have hfz34_0 := blk_frozen BK221.out 0; have hfz34_1 := blk_frozen BK221.out 1; have hfz34_2 := blk_frozen BK221.out 2) | ((with_reducible refine gate_callee (f := 8) rfl ?_); refine goesL_ (some 16) rfl rfl Try.func8 (by kernel_rfl) rfl #[.agg #[.string a0_0, .int .i64 a0_1, .int .i64 a0_2, .string a0_3, .int .i64 a0_4, .int .i64 a0_5, .int .i64 a0_6, .slice A0_7 l0_7.length c0_7, .int .i64 a0_8, .int .i64 a0_9, .int .i64 a0_10, .int .i64 a0_11], .agg #[.int .i64 a1_0, .int .i64 a1_1, .int .i64 a1_2], .slice A2 l2.length c2] rfl (by (try simp only [List.map_toArray, List.map_cons, List.map_nil]); first | done | rfl | (simp only [List.length_drop, List.length_take]; rfl)) ?_; (with_reducible refine (plenumref14_Fits.calls k a0_0 a0_1 a0_2 a0_3 a0_4 a0_5 a0_6 _ _ l0_7 a0_8 a0_9 a0_10 a0_11 a1_0 a1_1 a1_2 _ _ l2 false _ ?side1 ?side2 ?side3 ?side4 A6.out).mono ?_); (case side1 => repeat (first | exact (Kd.C_below HR0_7.out HB.out) | (with_reducible refine Kd.C_alloc ?_ _) | (with_reducible refine Kd.C_drewN ?_ _) | (with_reducible refine Kd.C_drew ?_))); (case side2 => exact HC0_7.out); (case side3 => repeat (first | exact (Kd.C_below HR2.out HB.out) | (with_reducible refine Kd.C_alloc ?_ _) | (with_reducible refine Kd.C_drewN ?_ _) | (with_reducible refine Kd.C_drew ?_))); (case side4 => exact HC2.out); rintro e w35 ⟨rfl, hb⟩; refine ⟨_, rfl, ?_⟩; have n0_ := Aside0.mk (blk_below (g := gb220) (o := .cells #[.string a0_0, .int .i64 a0_1, .int .i64 a0_2, .string a0_3, .int .i64 a0_4, .int .i64 a0_5, .int .i64 a0_6, .slice A0_7 l0_7.length c0_7, .int .i64 a0_8, .int .i64 a0_9, .int .i64 a0_10, .int .i64 a0_11] 26 (0, 0)) (by (with_reducible repeat (first | refine blk_drewN ?_ _ | refine blk_drew ?_ | refine blk_alloc ?_ _)); exact BK220.out) hb); have n1_ := Aside0.mk (blk_below (g := gb221) (o := .cells #[.int .i64 a1_0, .int .i64 a1_1, .int .i64 a1_2] 28 (0, 0)) (by (with_reducible repeat (first | refine blk_drewN ?_ _ | refine blk_drew ?_ | refine blk_alloc ?_ _)); exact BK221.out) hb); have n2_ := Aside0.mk (below_step (by repeat (first | (with_reducible first | exact HB.out | apply below_alloc | apply pw_below_drewN | apply below_drew1 | refine below_set ?_ GE220.out | refine below_set ?_ GE221.out) | exact HB.out)) hb); clear BK220; clear BK221; clear HB; have BK220 := n0_; have BK221 := n1_; have HB := n2_; clear n0_ n1_ n2_; (try clear hb); (try clear hb2); (try clear hk); (try clear hi)))
      go_ret
      exact ⟨by first | rfl | (simp [errW_none, errW_some] <;> rfl) | (simp [*, errW_none, errW_some] <;> rfl), by repeat (first | (with_reducible first | exact HB.out | apply below_alloc | apply pw_below_drewN | apply below_drew1 | refine below_set ?_ GE220.out | refine below_set ?_ GE221.out) | exact HB.out)⟩
  · replace c5 := Bool.eq_false_iff.mpr c5
    subst c5
    have H1 : (none) = some r := by rw [if_neg (show ¬ (false = true) by decide)] at H; exact H
    clear H
    have H := H1
    clear H1
    exact absurd H (by simp)
end Go.Proofs.Ytjllpbllmeegiaa.R
end
section
namespace Go.Proofs.Ytjllpbllmeegiaa.Opn
open Go.RowKit Go.Proofs.YtjllpbllmeegiaaW.PrintWords
def Opn (P : Program) (t : TypeId) {α : Type} (d : Kd α) (V : α → Prop) : Prop :=
  ∀ (H : Type) (enc : TypeId × Value → H) (w : World) (fuel : Nat) (cs : List Value) (x : DataW H × List MemPlace),
    DataW.trod enc P w 0 (fun _ => true) true fuel t cs = some x → (∀ n ∈ DataW.weights P t x.1, n ≤ 140737488351232) → ∃ y, d.K w y cs ∧ V y
theorem opn_int {P : Program} {t : TypeId} {k : IntKind} (ht : P.underlying t = some (.int k)) : Opn P t (Kd.int k) (fun y => (Lit.int k y).wf = true) := by
  intro H enc w fuel cs x h _
  obtain ⟨n, rfl, _, hw⟩ := DataW.trod_int ht h
  exact ⟨n, rfl, hw⟩
theorem opn_string {P : Program} {t : TypeId} (ht : P.underlying t = some .string) : Opn P t Kd.string (fun y => y.size ≤ 140737488351232) := by
  intro H enc w fuel cs x h hw
  obtain ⟨s, rfl, rfl, _⟩ := DataW.trod_string ht h
  refine ⟨s, rfl, ?_⟩
  have := hw s.data.toList.length (by simp [DataW.weights])
  rw [Array.length_toList] at this
  exact this
theorem weights_all {H : Type} {P : Program} {e : TypeId} {d : DataW H} {n : Nat} (hn : n ∈ DataW.weights P e d) : ∀ {l : List (DataW H)}, d ∈ l → n ∈ DataW.weightsAll P e l
  | [], h => by simp at h
  | a :: r, h => by
    simp only [DataW.weightsAll, List.mem_append]
    rcases List.mem_cons.1 h with rfl | h
    · exact .inl hn
    · exact .inr (weights_all hn h)
theorem list_of {α : Type} (Q : Nat → α → Prop) : ∀ n, (∀ i, i < n → ∃ y, Q i y) → ∃ l : List α, l.length = n ∧ ∀ i y, l[i]? = some y → Q i y
  | 0, _ => ⟨[], rfl, fun i y h => by simp at h⟩
  | n + 1, h => by
    obtain ⟨l, hl, hq⟩ := list_of Q n (fun i hi => h i (by omega))
    obtain ⟨y, hy⟩ := h n (by omega)
    refine ⟨l ++ [y], by simp [hl], fun i z hz => ?_⟩
    rcases Nat.lt_or_ge i n with hi | hi
    · rw [List.getElem?_append_left (by omega)] at hz
      exact hq i z hz
    · have : i = n := by
        have := (List.getElem?_eq_some_iff.1 hz).1
        simp [hl] at this
        omega
      subst this
      rw [List.getElem?_append_right (by omega), hl, Nat.sub_self] at hz
      simp at hz
      subst hz
      exact hy
theorem opn_slice {P : Program} {t e : TypeId} {α : Type} {d : Kd α} {V : α → Prop} {B : Nat} (ht : P.underlying t = some (.slice e)) (hs : P.cellsOf e = d.sz) (hB : P.bytesOf e = B) (he : Opn P e d V) :
    Opn P t (Kd.slice e d) (fun xs => xs.length * B ≤ 140737488351232 ∧ ∀ x ∈ xs, V x) := by
  intro H enc w fuel cs x h hw
  rcases Go.Deep.open_slice ht h with ⟨rfl, rfl⟩ | ⟨a, len, cap, m, n, D, Pl, rfl, _, hl, hm, hmm, rfl, hi⟩
  · exact ⟨[], ⟨none, 0, rfl, by simp, rfl, by simp, fun hn => absurd hn (by simp)⟩, by simp, by simp⟩
  have hmm' : m = cap := by simpa using hmm
  subst hmm'
  have hw' : (len + (m - len)) * B ≤ 140737488351232 := by
    have := hw ((len + (m - len)) * B) (by simp [DataW.weights, ht, hB])
    exact this
  obtain ⟨l, hlen, hq⟩ := list_of (fun i y => ∃ c, w.cells? 0 (a.add (i * P.cellsOf e)) (P.cellsOf e) = some c ∧ d.K w y c ∧ V y) len (fun i hil => by
    obtain ⟨c, hc, htr⟩ := hi i (by omega)
    obtain ⟨y, hy, hV⟩ := he H enc w n c _ htr (fun k hk => hw k (by
      simp only [DataW.weights, ht, List.mem_cons, List.mem_append]
      exact .inr (.inl (weights_all hk (List.mem_map.2 ⟨i, List.mem_range.2 hil, rfl⟩)))))
    exact ⟨y, c, hc, hy, hV⟩)
  refine ⟨l, ⟨some a, m, by rw [hlen], by omega, ?_⟩, ?_, ?_⟩
  · refine ⟨rfl, by simp only [maxLen] at hm; omega, fun _ => ⟨a, rfl, fun j p hj => ?_⟩⟩
    obtain ⟨c, hc, hK, _⟩ := hq j p hj
    obtain ⟨_, hcl, hat⟩ := World.cells?_some hc
    refine ⟨c, by rw [hcl, hs], hK, fun i u hu => ?_⟩
    have hil : i < P.cellsOf e := by
      have := (List.getElem?_eq_some_iff.1 hu).1
      omega
    rw [← hs, ← Go.Deep.add_add, hat i hil, hu]
  · rw [hlen]
    exact Nat.le_trans (Nat.mul_le_mul_right _ (by omega)) hw'
  · intro y hy
    obtain ⟨i, hi2⟩ := List.mem_iff_getElem?.1 hy
    exact (hq i y hi2).elim fun c h => h.2.2
def OpnF (P : Program) (fs : List Field) {α : Type} (d : Kd α) (V : α → Prop) (o : Nat) : Prop :=
  ∀ (H : Type) (enc : TypeId × Value → H) (w : World) (n : Nat) (cs : List Value) (xs : List (DataW H × List MemPlace)),
    o + d.sz ≤ cs.length →
    (∀ (i : Nat) (f : Field), fs[i]? = some f → ∃ x, xs[i]? = some x ∧ DataW.trod enc P w 0 (fun _ => true) true n f.type ((cs.drop f.offset).take (P.cellsOf f.type)) = some x ∧ ∀ k ∈ DataW.weights P f.type x.1, k ≤ 140737488351232) →
    ∃ y, d.K w y ((cs.drop o).take d.sz) ∧ V y
theorem opn_last {P : Program} {f : Field} {α : Type} {d : Kd α} {V : α → Prop} {o : Nat} (ho : f.offset = o) (hs : P.cellsOf f.type = d.sz) (h : Opn P f.type d V) : OpnF P [f] d V o := by
  intro H enc w n cs xs _ hx
  obtain ⟨x, _, ht, hw⟩ := hx 0 f rfl
  rw [hs, ho] at ht
  exact h H enc w n _ x ht hw
theorem take_two {α : Type} (cs : List α) (o a b : Nat) : (cs.drop o).take (a + b) = (cs.drop o).take a ++ (cs.drop (o + a)).take b := by
  rw [List.take_add, List.drop_drop]
theorem opn_cons {P : Program} {f : Field} {fs : List Field} {α β : Type} {a : Kd α} {b : Kd β} {V : α → Prop} {U : β → Prop} {o : Nat} (ho : f.offset = o) (hs : P.cellsOf f.type = a.sz) (h : Opn P f.type a V) (hr : OpnF P fs b U (o + a.sz)) :
    OpnF P (f :: fs) (Kd.pair a b) (fun y => V y.1 ∧ U y.2) o := by
  intro H enc w n cs xs hl hx
  obtain ⟨x, hx0, ht, hw⟩ := hx 0 f rfl
  rw [hs, ho] at ht
  obtain ⟨y, hy, hV⟩ := h H enc w n _ x ht hw
  have hl' : o + (a.sz + b.sz) ≤ cs.length := hl
  obtain ⟨z, hz, hU⟩ := hr H enc w n cs (xs.drop 1) (by omega) (fun i g hg => by
    obtain ⟨x', h1, h2⟩ := hx (i + 1) g (by simpa using hg)
    exact ⟨x', by rw [List.getElem?_drop, Nat.add_comm]; exact h1, h2⟩)
  exact ⟨(y, z), ⟨_, _, take_two cs o a.sz b.sz, hy, hz⟩, hV, hU⟩
theorem opn_struct {P : Program} {t : TypeId} {fa : Array Field} {fs : List Field} {α β : Type} {d : Kd α} {V : α → Prop} (ht : P.underlying t = some (.struct fa)) (hf : fa.toList = fs) (hs : P.cellsOf t = d.sz) (g : β → α) (g' : α → β) (hg : ∀ y, g (g' y) = y)
    (h : OpnF P fs d V 0) : Opn P t (Kd.iso d g) (fun x => V (g x)) := by
  intro H enc w fuel cs x hx hw
  obtain ⟨xs, n, rfl, rfl, hl, hxl, hfs⟩ := DataW.trod_struct ht hx
  obtain ⟨y, hy, hV⟩ := h H enc w n cs xs (by omega) (fun i f hi => by
    have hi' : fa[i]? = some f := by rw [← hf] at hi; simpa using hi
    have hlt : i < xs.length := by
      rw [hxl]
      exact (Array.getElem?_eq_some_iff.1 hi').1
    have h1 := hfs i f hi'
    refine ⟨xs[i], List.getElem?_eq_getElem hlt, by rw [h1, List.getElem?_eq_getElem hlt], fun k hk => hw k ?_⟩
    simp only [DataW.weights, ht]
    refine DataW.weights_mem_each (j := i) (t := f.type) (d := xs[i].1) ?_ ?_ k hk
    · rw [List.getElem?_map, hf, hi]
      rfl
    · rw [List.getElem?_map, List.getElem?_eq_getElem hlt]
      rfl)
  refine ⟨g' y, ?_, ?_⟩
  · show d.K w (g (g' y)) cs
    rw [hg]
    rw [List.drop_zero, ← hs, ← hl, List.take_length] at hy
    exact hy
  · show V (g (g' y))
    rw [hg]
    exact hV
theorem arg_slice {H : Type} {enc : TypeId × Value → H} {P : Program} {t e : TypeId} {α : Type} {d : Kd α} {V : List α → Prop} {W : World} {v : Value} {x : DataW H} {ps : List MemPlace} (ho : Opn P t (Kd.slice e d) V) (a : Option Addr) (len cap : Nat) (hv : v = .slice a len cap)
    (h : DataW.Trod enc P W 0 (fun _ => true) true t v x ps) (hw : ∀ n ∈ DataW.weights P t x, n ≤ 140737488351232) : ∃ (A : Option Addr) (c : Nat) (l : List α), v = .slice A l.length c ∧ l.length ≤ c ∧ Kd.C d W A l.length l ∧ V l := by
  obtain ⟨fuel, hf⟩ := h
  obtain ⟨l, ⟨A, c, hc, hl, hC⟩, hV⟩ := ho H enc W fuel _ _ hf hw
  subst hv
  have he : Value.slice a len cap = .slice A l.length c := by simpa [Value.cells] using hc
  exact ⟨A, c, l, he, hl, hC, hV⟩
theorem arg_struct {H : Type} {enc : TypeId × Value → H} {P : Program} {t : TypeId} {α : Type} {d : Kd α} {V : α → Prop} {W : World} {v : Value} {x : DataW H} {ps : List MemPlace} (ho : Opn P t d V) (cs : Array Value) (hv : v = .agg cs)
    (h : DataW.Trod enc P W 0 (fun _ => true) true t v x ps) (hw : ∀ n ∈ DataW.weights P t x, n ≤ 140737488351232) : ∃ y, (∃ l, v = .agg l.toArray ∧ d.K W y l) ∧ V y := by
  obtain ⟨fuel, hf⟩ := h
  obtain ⟨y, hK, hV⟩ := ho H enc W fuel _ _ hf hw
  subst hv
  exact ⟨y, ⟨cs.toList, by simp, hK⟩, hV⟩
theorem arg_weights {H : Type} {P : Program} {ts : List TypeId} {ds : List (DataW H)} (h : (DataW.weightsEach P ts ds).all (· ≤ reachBytes) = true) {j : Nat} {t : TypeId} {d : DataW H} (ht : ts[j]? = some t) (hd : ds[j]? = some d) : ∀ n ∈ DataW.weights P t d, n ≤ 140737488351232 := by
  intro n hn
  have := List.all_eq_true.1 h n (DataW.weights_mem_each ht hd n hn)
  exact of_decide_eq_true this
end Go.Proofs.Ytjllpbllmeegiaa.Opn
end
section
namespace Go.Proofs.Ytjllpbllmeegiaa.R
open Go.RowKit Go.Proofs.YtjllpbllmeegiaaW.PrintWords Go.Proofs.Ytjllpbllmeegiaa.Opn
def V24 (x : S24) : Prop := ((Lit.int .i64 x.f0).wf = true) ∧ ((Lit.int .i64 x.f1).wf = true)
theorem opn24 : Opn Try.prog 24 k24 V24 := opn_struct Try.underlying24 rfl (by kernel_rfl) (fun x : S24 => (x.f0, x.f1)) (fun y => (⟨y.1, y.2⟩ : S24)) (fun _ => rfl) (opn_cons rfl (by kernel_rfl) (opn_int Try.underlying3) (opn_last rfl (by kernel_rfl) (opn_int Try.underlying2)))
def V26 (x : S26) : Prop := (x.f0.size ≤ 140737488351232) ∧ ((Lit.int .i64 x.f1).wf = true) ∧ ((Lit.int .i64 x.f2).wf = true) ∧ (x.f3.size ≤ 140737488351232) ∧ ((Lit.int .i64 x.f4).wf = true) ∧ ((Lit.int .i64 x.f5).wf = true) ∧ ((Lit.int .i64 x.f6).wf = true) ∧ (x.f7.length * 16 ≤ 140737488351232 ∧ ∀ y ∈ x.f7, y.size ≤ 140737488351232) ∧ (V24 x.f8) ∧ ((Lit.int .i64 x.f9).wf = true) ∧ ((Lit.int .i64 x.f10).wf = true)
theorem opn26 : Opn Try.prog 26 k26 V26 := opn_struct Try.underlying26 rfl (by kernel_rfl) (fun x : S26 => (x.f0, x.f1, x.f2, x.f3, x.f4, x.f5, x.f6, x.f7, x.f8, x.f9, x.f10)) (fun y => (⟨y.1, y.2.1, y.2.2.1, y.2.2.2.1, y.2.2.2.2.1, y.2.2.2.2.2.1, y.2.2.2.2.2.2.1, y.2.2.2.2.2.2.2.1, y.2.2.2.2.2.2.2.2.1, y.2.2.2.2.2.2.2.2.2.1, y.2.2.2.2.2.2.2.2.2.2⟩ : S26)) (fun _ => rfl) (opn_cons rfl (by kernel_rfl) (opn_string Try.underlying9) (opn_cons rfl (by kernel_rfl) (opn_int Try.underlying3) (opn_cons rfl (by kernel_rfl) (opn_int Try.underlying3) (opn_cons rfl (by kernel_rfl) (opn_string Try.underlying9) (opn_cons rfl (by kernel_rfl) (opn_int Try.underlying2) (opn_cons rfl (by kernel_rfl) (opn_int Try.underlying2) (opn_cons rfl (by kernel_rfl) (opn_int Try.underlying2) (opn_cons rfl (by kernel_rfl) (opn_slice (B := 16) Try.underlying22 (by kernel_rfl) (by kernel_rfl) (opn_string Try.underlying9)) (opn_cons rfl (by kernel_rfl) opn24 (opn_cons rfl (by kernel_rfl) (opn_int Try.underlying3) (opn_last rfl (by kernel_rfl) (opn_int Try.underlying3))))))))))))
def V28 (x : S28) : Prop := (V24 x.f0) ∧ ((Lit.int .i64 x.f1).wf = true)
theorem opn28 : Opn Try.prog 28 k28 V28 := opn_struct Try.underlying28 rfl (by kernel_rfl) (fun x : S28 => (x.f0, x.f1)) (fun y => (⟨y.1, y.2⟩ : S28)) (fun _ => rfl) (opn_cons rfl (by kernel_rfl) opn24 (opn_last rfl (by kernel_rfl) (opn_int Try.underlying3)))
def V30 (x : S30) : Prop := ((Lit.int .i64 x.f0).wf = true) ∧ (V24 x.f1)
theorem opn30 : Opn Try.prog 30 k30 V30 := opn_struct Try.underlying30 rfl (by kernel_rfl) (fun x : S30 => (x.f0, x.f1)) (fun y => (⟨y.1, y.2⟩ : S30)) (fun _ => rfl) (opn_cons rfl (by kernel_rfl) (opn_int Try.underlying3) (opn_last rfl (by kernel_rfl) opn24))
def V32 (x : S32) : Prop := ((Lit.int .i64 x.f0).wf = true) ∧ (V30 x.f1)
theorem opn32 : Opn Try.prog 32 k32 V32 := opn_struct Try.underlying32 rfl (by kernel_rfl) (fun x : S32 => (x.f0, x.f1)) (fun y => (⟨y.1, y.2⟩ : S32)) (fun _ => rfl) (opn_cons rfl (by kernel_rfl) (opn_int Try.underlying3) (opn_last rfl (by kernel_rfl) opn30))
end Go.Proofs.Ytjllpbllmeegiaa.R
end
section
namespace Go.Proofs.Ytjllpbllmeegiaa.R
open Go.RowKit Go.Proofs.YtjllpbllmeegiaaW.PrintWords
def plenumlaw14_MinimumReplays.Pure : Prop := ∀ (x0 : S26) (x1 : S28) (l2 : List (S32)), (V26 x0) → (V28 x1) → (l2.length * 32 ≤ 140737488351232 ∧ ∀ y ∈ l2, V32 y) → ∃ k, plenumlaw14_MinimumReplays.f k x0.f0 x0.f1 x0.f2 x0.f3 x0.f4 x0.f5 x0.f6 x0.f7 x0.f8.f0 x0.f8.f1 x0.f9 x0.f10 x1.f0.f0 x1.f0.f1 x1.f1 l2 = some true
end Go.Proofs.Ytjllpbllmeegiaa.R
end
section
namespace Go.Proofs.Ytjllpbllmeegiaa.PureR
open Go.RowKit Go.Proofs.Ytjllpbllmeegiaa.R Go.Proofs.YtjllpbllmeegiaaW.PrintWords Go.Proofs.YtjllpbllmeegiaaW.PrintLast Go.Proofs.YtjllpbllmeegiaaW.PrintMore
def tm (kind role on off vk vn : Int) : Int := if role = 2 ∧ kind = 2 ∧ vk = 2 then (if vn = 1 then on else if vn = 0 then off else 0) else 0
def isv (kind vk vn : Int) : Bool := vk == kind && (!(vk == 2) || vn == 0 || vn == 1)
section
variable (k : Nat) (p0 : ByteArray) (p1 p2 : Int) (p3 : ByteArray) (p4 p5 p6 : Int) (l : List ByteArray) (p8 p9 p10 p11 o0 o1 o2 q0 q1 q2 t : Int)
theorem least_eq : minimum_least.f (k + 1) p0 p1 p2 p3 p4 p5 p6 l p8 p9 p10 p11 o0 o1 o2 = some (tm p1 p2 p10 p11 o0 o1) := by
  unfold minimum_least.f minimum_output.f
  by_cases h2 : p2 = 2 <;> by_cases h1 : p1 = 2 <;> by_cases h0 : o0 = 2 <;> by_cases hn : o1 = 1 <;> by_cases hz : o1 = 0 <;> simp_all [minimum_least.j0, tm]
theorem fits_eq : minimum_fits.f p0 p1 p2 p3 p4 p5 p6 l p8 p9 p10 p11 o0 o1 = some (isv p1 o0 o1) := by
  unfold minimum_fits.f isv
  by_cases h1 : o0 = p1 <;> by_cases h2 : o0 = 2 <;> by_cases h3 : o1 = 0 <;> simp_all
theorem held_eq : minimum_Held.f (k + 1) p0 p1 p2 p3 p4 p5 p6 l p8 p9 p10 p11 o0 o1 o2 t = some (decide (wrap64 (t - o2) < tm p1 p2 p10 p11 o0 o1)) := by
  unfold minimum_Held.f
  rw [least_eq]
  rfl
def valv (kind role on off o0 o1 o2 q0 q1 q2 t : Int) : Int × Int × Int :=
  if (isv kind o0 o1 && isv kind q1 q2) = false then (0, 0, 11) else if q0 < 1 ∨ q0 > 17 then (0, 0, 6) else if t < o2 then (0, 0, 8) else
  if q0 > 5 ∧ wrap64 (t - o2) < tm kind role on off o0 o1 then (o0, o1, 0) else (q1, q2, 0)
def nextv (kind role on off o0 o1 o2 q0 q1 q2 t : Int) : Int × Int × Int × Int :=
  let v := valv kind role on off o0 o1 o2 q0 q1 q2 t
  if v.2.2 = 0 then (if v.1 = o0 ∧ v.2.1 = o1 then (o0, o1, o2, 0) else (v.1, v.2.1, t, 0)) else (0, 0, 0, v.2.2)
theorem value_eq : minimum_Value.f (k + 3) p0 p1 p2 p3 p4 p5 p6 l p8 p9 p10 p11 o0 o1 o2 q0 q1 q2 t = some (valv p1 p2 p10 p11 o0 o1 o2 q0 q1 q2 t) := by
  unfold minimum_Value.f valv
  rw [fits_eq, fits_eq]
  simp only [Option.bind_some]
  cases h1 : isv p1 o0 o1 <;> cases h2 : isv p1 q1 q2 <;> simp [minimum_Value.j0, minimum_Value.j1]
  by_cases h3 : q0 < 1
  · simp [h3]
  by_cases h4 : q0 > 17
  · simp [h3, h4]
  by_cases h5 : t < o2
  · simp [h3, h4, h5]
  by_cases h6 : q0 > 5
  · by_cases h7 : wrap64 (t - o2) < tm p1 p2 p10 p11 o0 o1 <;> simp [h3, h4, h5, h6, h7, held_eq]
  · simp [h3, h4, h5, h6]
theorem next_eq : minimum_Next.f (k + 3) p0 p1 p2 p3 p4 p5 p6 l p8 p9 p10 p11 o0 o1 o2 q0 q1 q2 t = some (nextv p1 p2 p10 p11 o0 o1 o2 q0 q1 q2 t) := by
  unfold minimum_Next.f nextv
  rw [value_eq]
  simp only [Option.bind_some]
  by_cases h1 : (valv p1 p2 p10 p11 o0 o1 o2 q0 q1 q2 t).2.2 = 0
  · by_cases h2 : (valv p1 p2 p10 p11 o0 o1 o2 q0 q1 q2 t).1 = o0 <;> by_cases h3 : (valv p1 p2 p10 p11 o0 o1 o2 q0 q1 q2 t).2.1 = o1 <;> simp [h1, h2, h3]
  · simp [h1]
theorem until_eq : minimum_Until.f (k + 1) p0 p1 p2 p3 p4 p5 p6 l p8 p9 p10 p11 o0 o1 o2 = some (wrap64 (o2 + tm p1 p2 p10 p11 o0 o1)) := by
  unfold minimum_Until.f
  rw [least_eq]
  rfl
end
theorem awake_eq (k : Nat) : plenumlaw14_awake.f (k + 3) = some true := by
  unfold plenumlaw14_awake.f plenumlaw14_on.f
  simp only [Option.bind_some, next_eq, value_eq, until_eq, held_eq]
  decide +kernel
theorem inst_some (n : Int) : ∃ b, plenumref14_instant.f n = some b := by unfold plenumref14_instant.f; split <;> exact ⟨_, rfl⟩
end Go.Proofs.Ytjllpbllmeegiaa.PureR
end
section
namespace Go.Proofs.Ytjllpbllmeegiaa.PureR
open Go.RowKit Go.Proofs.Ytjllpbllmeegiaa.R Go.Proofs.YtjllpbllmeegiaaW.PrintWords Go.Proofs.YtjllpbllmeegiaaW.PrintLast Go.Proofs.YtjllpbllmeegiaaW.PrintMore
theorem wrap_succ {i : Int} {n : Nat} (h0 : 0 ≤ i) (h : i < (n : Int)) (hn : n ≤ 4398046511104) : wrap64 (i + 1) = i + 1 := by unfold wrap64; omega
theorem drop_at {α : Type} (l : List α) (d : α) (i : Nat) (h : i < l.length) : l.drop i = l.getD i d :: l.drop (i + 1) := by
  rw [List.drop_eq_getElem_cons h]
  simp [List.getD_eq_getElem?_getD, List.getElem?_eq_getElem h]
theorem fits_some (k : Nat) (p0 : ByteArray) (p1 p2 : Int) (p3 : ByteArray) (p4 p5 p6 : Int) (l : List ByteArray) (p8 p9 p10 p11 o0 o1 o2 : Int) (xs : List S32) (hx : xs.length ≤ 4398046511104) (hk : xs.length + 2 ≤ k) : ∃ b, plenumref14_Fits.f k p0 p1 p2 p3 p4 p5 p6 l p8 p9 p10 p11 o0 o1 o2 xs = some b := by
  have loop : ∀ (d k : Nat) (i : Int), 0 ≤ i → (xs.length : Int) - i ≤ d → d < k → ∃ b, plenumref14_Fits.l0 k xs i = some b := by
    intro d
    induction d with
    | zero =>
      intro k i h0 hd hk
      obtain ⟨k, rfl⟩ : ∃ m, k = m + 1 := ⟨k - 1, by omega⟩
      simp only [plenumref14_Fits.l0]
      rw [if_neg (by omega)]
      exact ⟨_, rfl⟩
    | succ d ih =>
      intro k i h0 hd hk
      obtain ⟨k, rfl⟩ : ∃ m, k = m + 1 := ⟨k - 1, by omega⟩
      simp only [plenumref14_Fits.l0]
      by_cases h : i < (xs.length : Int)
      · rw [if_pos h, if_pos h0]
        obtain ⟨b, hb⟩ := inst_some (rd_T32 xs i).f0
        rw [hb]
        cases b
        · exact ⟨false, rfl⟩
        · simp only [Option.bind_some, if_true]
          rw [wrap_succ h0 h hx]
          exact ih k (i + 1) (by omega) (by omega) (by omega)
      · rw [if_neg h]
        exact ⟨_, rfl⟩
  have j : ∀ b, ∃ r, plenumref14_Fits.j0 k xs b = some r := by
    intro b
    obtain ⟨k, rfl⟩ : ∃ m, k = m + 1 := ⟨k - 1, by omega⟩
    simp only [plenumref14_Fits.j0]
    cases b
    · exact loop xs.length k 0 (by omega) (by omega) (by omega)
    · exact ⟨_, rfl⟩
  unfold plenumref14_Fits.f
  obtain ⟨b1, h1⟩ := inst_some p10
  obtain ⟨b2, h2⟩ := inst_some p11
  obtain ⟨b3, h3⟩ := inst_some o2
  rw [h1, h2, h3]
  cases b1 <;> cases b2 <;> cases b3 <;> exact j _
def conv (x : S32) : S55 := ⟨x.f0, ⟨x.f1.f0, ⟨x.f1.f1.f0, x.f1.f1.f1⟩⟩⟩
theorem ours_eq (xs : List S32) (hx : xs.length ≤ 4398046510976) (k : Nat) (hk : xs.length < k) : plenumlaw14_ours.f k xs = some (xs.map conv) := by
  have loop : ∀ (d k : Nat) (i : Nat) (acc : List S55), xs.length - i = d → acc = (xs.take i).map conv → i ≤ xs.length → d < k → plenumlaw14_ours.l0 k xs acc (i : Int) = some (xs.map conv) := by
    intro d
    induction d with
    | zero =>
      intro k i acc hd ha hi hk
      obtain ⟨k, rfl⟩ : ∃ m, k = m + 1 := ⟨k - 1, by omega⟩
      simp only [plenumlaw14_ours.l0]
      rw [if_neg (by omega), ha, List.take_of_length_le (by omega)]
    | succ d ih =>
      intro k i acc hd ha hi hk
      obtain ⟨k, rfl⟩ : ∃ m, k = m + 1 := ⟨k - 1, by omega⟩
      simp only [plenumlaw14_ours.l0]
      rw [if_pos (by omega), if_pos (by omega), if_pos (by rw [ha]; simp; omega), wrap_succ (n := xs.length) (by omega) (by omega) (by omega)]
      refine ih k (i + 1) _ (by omega) ?_ (by omega) (by omega)
      rw [ha, List.take_succ_eq_append_getElem (by omega), List.map_append]
      congr 1
      simp [rd_T32, conv, List.getElem?_eq_getElem (show i < xs.length by omega)]
  unfold plenumlaw14_ours.f
  exact loop xs.length k 0 [] (by omega) (by simp) (by omega) hk
def rep (kind role on off : Int) : S28 → List S55 → List S28 → List S28 × Int
  | _, [], acc => (acc, 0)
  | o, a :: rs, acc =>
    let n := nextv kind role on off o.f0.f0 o.f0.f1 o.f1 a.f1.f0 a.f1.f1.f0 a.f1.f1.f1 a.f0
    if n.2.2.2 = 0 then rep kind role on off ⟨⟨n.1, n.2.1⟩, n.2.2.1⟩ rs (acc ++ [⟨⟨n.1, n.2.1⟩, n.2.2.1⟩]) else ([], n.2.2.2)
theorem replay_eq (p0 : ByteArray) (p1 p2 : Int) (p3 : ByteArray) (p4 p5 p6 : Int) (l : List ByteArray) (p8 p9 p10 p11 : Int) (xs : List S55) (hx : xs.length ≤ 4398046510976) : ∀ (d k : Nat) (i : Nat) (o : S28) (acc : List S28),
    xs.length - i = d → acc.length ≤ i → i ≤ xs.length → d + 3 < k → minimum_Replay.l0 k acc xs (xs.length : Int) (i : Int) p0 p1 p2 p3 p4 p5 p6 l p8 p9 p10 p11 o.f0.f0 o.f0.f1 o.f1 = some (rep p1 p2 p10 p11 o (xs.drop i) acc) := by
  intro d
  induction d with
  | zero =>
    intro k i o acc hd ha hi hk
    obtain ⟨k, rfl⟩ : ∃ m, k = m + 1 := ⟨k - 1, by omega⟩
    simp only [minimum_Replay.l0]
    rw [if_neg (by omega), List.drop_of_length_le (by omega)]
    rfl
  | succ d ih =>
    intro k i o acc hd ha hi hk
    obtain ⟨k, rfl⟩ : ∃ m, k = m + 1 := ⟨k - 1, by omega⟩
    simp only [minimum_Replay.l0]
    obtain ⟨k, rfl⟩ : ∃ m, k = m + 3 := ⟨k - 3, by omega⟩
    rw [if_pos (by omega), if_pos (by omega), if_pos (by omega), next_eq, drop_at xs z55 i (by omega)]
    have hr : rd_T55 xs (i : Int) = xs.getD i z55 := rfl
    rw [hr]
    simp only [Option.bind_some, rep]
    split
    · rw [if_pos (by omega), wrap_succ (n := xs.length) (by omega) (by omega) (by omega)]
      exact ih (k + 3) (i + 1) ⟨⟨_, _⟩, _⟩ _ (by omega) (by simp; omega) (by omega) (by omega)
    · rfl
theorem rep_len (kind role on off : Int) : ∀ (rs : List S55) (o : S28) (acc : List S28), (rep kind role on off o rs acc).1.length ≤ acc.length + rs.length
  | [], _, acc => by simp [rep]
  | a :: rs, o, acc => by
    simp only [rep]
    split
    · refine Nat.le_trans (rep_len kind role on off rs _ _) ?_
      simp
      omega
    · simp
end Go.Proofs.Ytjllpbllmeegiaa.PureR
end
section
namespace Go.Proofs.Ytjllpbllmeegiaa.PureR
open Go.RowKit Go.Proofs.Ytjllpbllmeegiaa.R Go.Proofs.YtjllpbllmeegiaaW.PrintWords Go.Proofs.YtjllpbllmeegiaaW.PrintLast Go.Proofs.YtjllpbllmeegiaaW.PrintMore
section
variable (k : Nat) (p0 : ByteArray) (p1 p2 : Int) (p3 : ByteArray) (p4 p5 p6 : Int) (l : List ByteArray) (p8 p9 p10 p11 o0 o1 o2 q0 q1 q2 t : Int)
theorem time_eq : plenumref14_Time.f (k + 1) p0 p1 p2 p3 p4 p5 p6 l p8 p9 p10 p11 o0 o1 o2 = some (tm p1 p2 p10 p11 o0 o1) := by
  unfold plenumref14_Time.f plenumref14_binary.f
  by_cases h2 : p2 = 2 <;> by_cases h1 : p1 = 2 <;> by_cases h0 : o0 = 2 <;> by_cases hn : o1 = 1 <;> by_cases hz : o1 = 0 <;> simp_all [plenumref14_Time.j0, tm]
theorem is_eq : plenumref14_Is.f p0 p1 p2 p3 p4 p5 p6 l p8 p9 p10 p11 o0 o1 = some (isv p1 o0 o1) := by
  unfold plenumref14_Is.f isv
  by_cases h1 : o0 = p1 <;> by_cases h2 : o0 = 2 <;> by_cases h3 : o1 = 0 <;> simp_all
theorem rheld_eq : plenumref14_Held.f (k + 1) p0 p1 p2 p3 p4 p5 p6 l p8 p9 p10 p11 o0 o1 o2 t = some (decide (wrap64 (t - o2) < tm p1 p2 p10 p11 o0 o1)) := by
  unfold plenumref14_Held.f
  rw [time_eq]
  rfl
theorem rnext_eq : plenumref14_Next.f (k + 3) p0 p1 p2 p3 p4 p5 p6 l p8 p9 p10 p11 o0 o1 o2 q0 q1 q2 t = some (nextv p1 p2 p10 p11 o0 o1 o2 q0 q1 q2 t) := by
  unfold plenumref14_Next.f nextv valv
  rw [is_eq, is_eq]
  simp only [Option.bind_some]
  cases h1 : isv p1 o0 o1 <;> cases h2 : isv p1 q1 q2 <;> simp [plenumref14_Next.j0, plenumref14_Next.j1]
  by_cases h3 : q0 < 1
  · simp [h3]
  by_cases h4 : q0 > 17
  · simp [h3, h4]
  by_cases h5 : t < o2
  · simp [h3, h4, h5]
  by_cases h7 : wrap64 (t - o2) < tm p1 p2 p10 p11 o0 o1
  · by_cases h6 : q0 > 5 <;> by_cases h8 : q1 = o0 <;> by_cases h9 : q2 = o1 <;> simp [h3, h4, h5, h6, h7, h8, h9, rheld_eq]
  · by_cases h8 : q1 = o0 <;> by_cases h9 : q2 = o1 <;> simp [h3, h4, h5, h7, h8, h9, rheld_eq]
end
end Go.Proofs.Ytjllpbllmeegiaa.PureR
end
section
namespace Go.Proofs.Ytjllpbllmeegiaa.Pure
open Go.RowKit Go.Proofs.Ytjllpbllmeegiaa.R Go.Proofs.Ytjllpbllmeegiaa.PureR Go.Proofs.YtjllpbllmeegiaaW.PrintWords Go.Proofs.YtjllpbllmeegiaaW.PrintLast Go.Proofs.YtjllpbllmeegiaaW.PrintMore
theorem rreplay_eq (p0 : ByteArray) (p1 p2 : Int) (p3 : ByteArray) (p4 p5 p6 : Int) (l : List ByteArray) (p8 p9 p10 p11 : Int) (xs : List S32) (hx : xs.length ≤ 4398046510976) : ∀ (d k : Nat) (i : Nat) (o : S28) (acc : List S28),
    xs.length - i = d → acc.length ≤ i → i ≤ xs.length → d + 3 < k → plenumref14_Replay.l0 k xs acc (i : Int) p0 p1 p2 p3 p4 p5 p6 l p8 p9 p10 p11 o.f0.f0 o.f0.f1 o.f1 = some (rep p1 p2 p10 p11 o ((xs.drop i).map conv) acc) := by
  intro d
  induction d with
  | zero =>
    intro k i o acc hd ha hi hk
    obtain ⟨k, rfl⟩ : ∃ m, k = m + 1 := ⟨k - 1, by omega⟩
    simp only [plenumref14_Replay.l0]
    rw [if_neg (by omega), List.drop_of_length_le (by omega)]
    rfl
  | succ d ih =>
    intro k i o acc hd ha hi hk
    obtain ⟨k, rfl⟩ : ∃ m, k = m + 1 := ⟨k - 1, by omega⟩
    simp only [plenumref14_Replay.l0]
    obtain ⟨k, rfl⟩ : ∃ m, k = m + 3 := ⟨k - 3, by omega⟩
    rw [if_pos (by omega), if_pos (by omega), rnext_eq, drop_at xs z32 i (by omega)]
    have hr : rd_T32 xs (i : Int) = xs.getD i z32 := rfl
    rw [hr]
    simp only [Option.bind_some, List.map_cons, rep, conv]
    split
    · rw [if_pos (by omega), wrap_succ (n := xs.length) (by omega) (by omega) (by omega)]
      exact ih (k + 3) (i + 1) ⟨⟨_, _⟩, _⟩ _ (by omega) (by simp; omega) (by omega) (by omega)
    · rfl
theorem same_self (xs : List S28) (hx : xs.length ≤ 4398046511104) : ∀ (d k : Nat) (i : Int), 0 ≤ i → (xs.length : Int) - i ≤ d → d < k → plenumref14_Same.l0 k xs xs i = some true := by
  intro d
  induction d with
  | zero =>
    intro k i h0 hd hk
    obtain ⟨k, rfl⟩ : ∃ m, k = m + 1 := ⟨k - 1, by omega⟩
    simp only [plenumref14_Same.l0]
    rw [if_neg (by omega)]
  | succ d ih =>
    intro k i h0 hd hk
    obtain ⟨k, rfl⟩ : ∃ m, k = m + 1 := ⟨k - 1, by omega⟩
    simp only [plenumref14_Same.l0]
    by_cases h : i < (xs.length : Int)
    · rw [if_pos h, if_pos h0, if_pos h, if_neg (by simp), wrap_succ h0 h hx]
      exact ih k (i + 1) (by omega) (by omega) (by omega)
    · rw [if_neg h]
theorem MinimumReplays : plenumlaw14_MinimumReplays.Pure := by
  intro p o xs _ _ hx
  have hl : xs.length ≤ 4398046510976 := by have := hx.1; omega
  refine ⟨xs.length + 10, ?_⟩
  unfold plenumlaw14_MinimumReplays.f
  rw [show xs.length + 10 = (xs.length + 7) + 3 from rfl, awake_eq]
  obtain ⟨b, hb⟩ := fits_some (xs.length + 7 + 3) p.f0 p.f1 p.f2 p.f3 p.f4 p.f5 p.f6 p.f7 p.f8.f0 p.f8.f1 p.f9 p.f10 o.f0.f0 o.f0.f1 o.f1 xs (by omega) (by omega)
  rw [hb]
  cases b
  · simp
  simp only [Option.bind_some, if_true]
  rw [ours_eq xs hl _ (by omega)]
  simp only [Option.bind_some]
  unfold minimum_Replay.f plenumref14_Replay.f
  have h1 := replay_eq p.f0 p.f1 p.f2 p.f3 p.f4 p.f5 p.f6 p.f7 p.f8.f0 p.f8.f1 p.f9 p.f10 (xs.map conv) (by simpa using hl) xs.length (xs.length + 7 + 3) 0 o [] (by simp) (by simp) (by simp) (by omega)
  have h2 := rreplay_eq p.f0 p.f1 p.f2 p.f3 p.f4 p.f5 p.f6 p.f7 p.f8.f0 p.f8.f1 p.f9 p.f10 xs hl xs.length (xs.length + 7 + 3) 0 o [] (by simp) (by simp) (by simp) (by omega)
  have h1' : minimum_Replay.l0 (xs.length + 7 + 3) ([] : List S28) (xs.map conv) ((xs.map conv).length : Int) 0 p.f0 p.f1 p.f2 p.f3 p.f4 p.f5 p.f6 p.f7 p.f8.f0 p.f8.f1 p.f9 p.f10 o.f0.f0 o.f0.f1 o.f1 = some (rep p.f1 p.f2 p.f9 p.f10 o (xs.map conv) []) := h1
  have h2' : plenumref14_Replay.l0 (xs.length + 7 + 3) xs ([] : List S28) 0 p.f0 p.f1 p.f2 p.f3 p.f4 p.f5 p.f6 p.f7 p.f8.f0 p.f8.f1 p.f9 p.f10 o.f0.f0 o.f0.f1 o.f1 = some (rep p.f1 p.f2 p.f9 p.f10 o (xs.map conv) []) := h2
  rw [h1', h2']
  simp only [Option.bind_some, if_true]
  have hr := rep_len p.f1 p.f2 p.f9 p.f10 (xs.map conv) o []
  simp only [List.length_map, List.length_nil] at hr
  unfold plenumref14_Same.f
  rw [if_pos rfl, same_self _ (by omega) xs.length _ 0 (by omega) (by omega) (by omega)]
  rfl
end Go.Proofs.Ytjllpbllmeegiaa.Pure
end
section
namespace Go.Proofs.Ytjllpbllmeegiaa.minimumReplays
open Go.ChangeShapes Go.WideShapes Go.ChangeAt Go.RowKit
open Go.ChangeMaps (open_string shut_string)
open Go.Proofs.Ytjllpbllmeegiaa.Opn Go.Proofs.YtjllpbllmeegiaaW.PrintWords Go.Proofs.Ytjllpbllmeegiaa.R
set_option linter.unusedVariables false
theorem own : ownKnob Try.prog.godebug = none := by kernel_rfl
theorem laidOut : laidOutB Try.prog = true := by kernel_rfl
set_option maxHeartbeats 2000000 in
set_option maxRecDepth 100000 in
theorem lifted (os : Os) (started : os.Started) (H : Type) (enc : TypeId × Value → H) :
    ReturnsInHanded {} Try.checked os 5 .any (Rows.minimumReplaysSpec.pre6 enc Try.prog Try.f5 Rows.minimumReplaysRow.domain false) (Rows.minimumReplaysSpec.post enc Try.prog Try.f5 false true false false) := by
  refine returnsInHanded_of_change_sized (C := Try.checked) own started (by kernel_rfl) Try.func5
    (ChangeSpec.witness6 (enc := enc) (C := Try.checked) false ⟨#[], #[(.agg #[(.string ⟨#[]⟩), (.int .i64 0), (.int .i64 0), (.string ⟨#[]⟩), (.int .i64 0), (.int .i64 0), (.int .i64 0), (.slice none 0 0), (.int .i64 0), (.int .i64 0), (.int .i64 0), (.int .i64 0)]), (.agg #[(.int .i64 0), (.int .i64 0), (.int .i64 0)]), .slice none 0 0], []⟩ 8 (by kernel_rfl) (by kernel_rfl) (by kernel_rfl) (by kernel_rfl)) ?_
  intro W base args ds gs before hval0 hW hcnd hsz0 _
  have hsz : (DataW.weightsEach Try.prog (Try.f5.params.toList ++ Rows.minimumReplaysSpec.plain.varTypes Try.prog) (ds ++ gs)).all (· ≤ reachBytes) = true := hsz0
  have hval : ∀ (j : Nat) t v, Try.f5.params[j]? = some t → args[j]? = some v → Value.okWide Try.prog W .any base t v := hval0
  have hW' := hW
  obtain ⟨p, q, hA0, hV, rfl, hfz, hnd⟩ := hW
  have hA : DataW.TrodAll enc Try.prog W 0 (fun _ => true) true Try.f5.params.toList args.toList ds p := hA0
  rw [Try.params5] at hA hval hsz
  obtain ⟨v0, vs0, d0, ds0, p0, q0, hargs, rfl, rfl, h0, r0⟩ := trodAll_cons hA
  obtain ⟨v1, vs1, d1, ds1, p1, q1, rfl, rfl, rfl, h1, r1⟩ := trodAll_cons r0
  obtain ⟨v2, vs2, d2, ds2, p2, q2, rfl, rfl, rfl, h2, r2⟩ := trodAll_cons r1
  obtain ⟨rfl, rfl, rfl⟩ := trodAll_nil r2
  obtain rfl : args = #[v0, v1, v2] := by cases args; simp_all
  obtain ⟨rfl, rfl⟩ := trodVars_none hV
  have k0 := h0
  have lt0 : ∀ x ∈ p0, x.block < W.heap.size := by obtain ⟨m, hm⟩ := k0; exact DataW.trod_lt m _ _ _ hm
  obtain ⟨cs0, hcs0, _⟩ := okWide_struct Try.underlying26 (hval 0 26 v0 rfl rfl)
  obtain ⟨x0, ⟨l0, hv0, hK0⟩, hV0⟩ := arg_struct opn26 cs0 hcs0 h0 (arg_weights hsz (j := 0) (t := 26) rfl rfl)
  obtain ⟨A0_7, c0_7, rfl, hc0_7, hr0_7⟩ := k26_open hK0
  clear hcs0
  subst hv0
  have k1 := h1
  have lt1 : ∀ x ∈ p1, x.block < W.heap.size := by obtain ⟨m, hm⟩ := k1; exact DataW.trod_lt m _ _ _ hm
  obtain ⟨cs1, hcs1, _⟩ := okWide_struct Try.underlying28 (hval 1 28 v1 rfl rfl)
  obtain ⟨x1, ⟨l1, hv1, hK1⟩, hV1⟩ := arg_struct opn28 cs1 hcs1 h1 (arg_weights hsz (j := 1) (t := 28) rfl rfl)
  obtain rfl := k28_open hK1
  clear hcs1
  subst hv1
  have k2 := h2
  have lt2 : ∀ x ∈ p2, x.block < W.heap.size := by obtain ⟨m, hm⟩ := k2; exact DataW.trod_lt m _ _ _ hm
  obtain ⟨b2, len2, cap2, hb2⟩ := okWide_slice Try.underlying35 (hval 2 35 v2 rfl rfl)
  obtain ⟨A2, c2, l2, hv2, hc2, hr2, hV2⟩ := arg_slice (opn_slice (B := 32) Try.underlying35 (by kernel_rfl) (by kernel_rfl) opn32) b2 len2 cap2 hb2 h2 (arg_weights hsz (j := 2) (t := 35) rfl rfl)
  clear hb2
  subst hv2
  clear hA0 hval0 hsz0 hsz
  obtain ⟨k, h⟩ := Pure.MinimumReplays x0 x1 l2 hV0 hV1 hV2
  refine (R.plenumlaw14_MinimumReplays.calls k x0.f0 x0.f1 x0.f2 x0.f3 x0.f4 x0.f5 x0.f6 A0_7 c0_7 x0.f7 x0.f8.f0 x0.f8.f1 x0.f9 x0.f10 x1.f0.f0 x1.f0.f1 x1.f1 A2 c2 l2 true W hr0_7 hc0_7 hr2 hc2 h).mono fun e W' ⟨he, bel0⟩ => ?_
  have bel : Below W.heap.size W W' := bel0
  subst he
  exact ⟨_, rfl, _, _, _, [], _, [], hW', trodAll_mk1 (shut_bool Try.underlying4 _), (trodAll_cons_mk (Below.trod laidOut (by kernel_rfl) (of_decide_eq_true (by kernel_rfl)) k0 bel lt0) (trodAll_cons_mk (Below.trod laidOut (by kernel_rfl) (of_decide_eq_true (by kernel_rfl)) k1 bel lt1) (trodAll_cons_mk (Below.trod laidOut (by kernel_rfl) (of_decide_eq_true (by kernel_rfl)) k2 bel lt2) trodAll_mk0))), rfl, bel.frame _, fun h => by cases h⟩
theorem over : Rows.minimumReplaysRow.holds Try.pinned (OpenSpec.ofChange Rows.minimumReplaysSpec) :=
  OpenClaim.holds_of_wide 5 Try.f5 rfl rfl rfl rfl rfl rfl rfl ⟨rfl, rfl, rfl, rfl, rfl⟩ rfl rfl rfl rfl rfl (by kernel_rfl) Try.func5 (by kernel_rfl)
    (of_decide_eq_true (by kernel_rfl)) (by unfold Func.isWrapper; first | (rw [if_pos (by decide +kernel)]; kernel_rfl) | (rw [if_neg (by decide +kernel)]; exact ⟨rfl, rfl⟩))
    (fun os started H enc _ => lifted os started H enc)
theorem proved : Rows.MinimumReplaysSaid := over
#print axioms proved
end Go.Proofs.Ytjllpbllmeegiaa.minimumReplays
namespace Go.Proofs.Ytjllpbllmeegiaa
theorem minimumReplays_holds : Rows.MinimumReplaysSaid := minimumReplays.proved
end Go.Proofs.Ytjllpbllmeegiaa
end
