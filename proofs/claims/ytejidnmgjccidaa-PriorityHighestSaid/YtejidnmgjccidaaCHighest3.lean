/- PriorityHighest: one part of the proof that the law answers true for every input, and that its arguments read afterwards as before. No condition. -/
import Derived.Test.YtejidnmgjccidaaCHighest2
import Derived.ProofKit
import Derived.Deep.Slices
import Derived.SizedLaws
import Derived.OpenShut
import Derived.DataReads
import Derived.WalkKit
import Derived.ShutString
import Derived.ChangeOld
import Derived.Below
import Derived.Test.YtejidnmgjccidaaRows
section
namespace Go.Proofs.Ytejidnmgjccidaa.R
open Go.RowKit Go.Proofs.YtejidnmgjccidaaW.PrintWords Go.Proofs.YtejidnmgjccidaaW.PrintLast Go.Proofs.YtejidnmgjccidaaW.PrintMore
attribute [local go_sem] max2_int min2_int max_two min_two max_three min_three max_four min_four
set_option linter.unusedVariables false
set_option linter.unusedSimpArgs false
attribute [local go_sem high] eqA23
mutual
def plenumlaw13_PriorityHighest.j0 : Nat → List (S25) → Int → Bool → Int → Int → Option (Bool)
  | 0, _, _, _, _, _ => none
  | k + 1, x0, x1, x29, x365000, x365001 => if x29 = true then (some true) else ((priority_Under.f x0 x1 x365000 x365001).bind fun bt367 => (if bt367.2.2.2 = 0 then (if bt367.1 ≤ x1 then (plenumlaw13_PriorityHighest.j1 k x0 x1 bt367.1 true x365000 x365001 bt367.2.1 bt367.2.2.1) else (plenumlaw13_PriorityHighest.j1 k x0 x1 bt367.1 (decide (bt367.1 > 17)) x365000 x365001 bt367.2.1 bt367.2.2.1)) else (plenumlaw13_PriorityHighest.j1 k x0 x1 bt367.1 true x365000 x365001 bt367.2.1 bt367.2.2.1)))
def plenumlaw13_PriorityHighest.j1 : Nat → List (S25) → Int → Int → Bool → Int → Int → Int → Int → Option (Bool)
  | 0, _, _, _, _, _, _, _, _ => none
  | k + 1, x0, x1, x7, x48, x365000, x365001, x372000, x372001 => if x48 = true then (none) else (plenumlaw13_PriorityHighest.l0 k x0 x1 x7 (wrap64 (x1 + 1)) x365000 x365001 x372000 x372001)
def plenumlaw13_PriorityHighest.l0 : Nat → List (S25) → Int → Int → Int → Int → Int → Int → Int → Option (Bool)
  | 0, _, _, _, _, _, _, _, _ => none
  | k + 1, x0, x1, x7, x10, x365000, x365001, x372000, x372001 => if x10 < x7 then ((priority_Slot.f x0 x10).bind fun bt372 => (if bt372.2.2 = 0 then (if bt372.1 = 0 then (plenumlaw13_PriorityHighest.l0 k x0 x1 x7 (wrap64 (x10 + 1)) x365000 x365001 x372000 x372001) else (none)) else (none))) else (if x7 = 17 then (some (x372000 == x365000 && (x372001 == x365001))) else ((priority_Slot.f x0 x7).bind fun bt376 => ((priority_Active.f x0 x365000 x365001).bind fun bt380 => (if bt376.2.2 = 0 then (if (bt376.1 == x372000 && (bt376.2.1 == x372001)) = true then (if bt376.1 = 0 then (none) else (if x1 > 0 then (some true) else (if bt380.1 = x7 then (some (bt380.2.1 == x372000 && (bt380.2.2 == x372001))) else (none)))) else (none)) else (none)))))
end
def plenumlaw13_PriorityHighest.f (k : Nat) (l0 : List (S25)) (a1 : Int) (a2_0 : Int) (a2_1 : Int) : Option (Bool) := (plenumlaw13_awake.f k).bind fun t365 => (if t365 = true then ((plenumlaw13_few.f l0).bind fun t366 => (if t366 = true then (if a1 < 0 then (plenumlaw13_PriorityHighest.j0 k l0 a1 true a2_0 a2_1) else (plenumlaw13_PriorityHighest.j0 k l0 a1 (decide (a1 > 16)) a2_0 a2_1)) else (plenumlaw13_PriorityHighest.j0 k l0 a1 true a2_0 a2_1))) else (none))
set_option maxHeartbeats 8000000 in
set_option maxRecDepth 100000 in
theorem plenumlaw13_PriorityHighest.calls (k : Nat) (A0 : Option Addr) (c0 : Nat) (l0 : List (S25)) (a1 : Int) (a2_0 : Int) (a2_1 : Int) (r : Bool) (w : World) (hr0 : Kd.C k25 w A0 l0.length l0) (hc0 : l0.length ≤ c0) (h : plenumlaw13_PriorityHighest.f k l0 a1 a2_0 a2_1 = some r) :
    Calls Try.prog 7 #[.slice A0 l0.length c0, .int .i64 a1, .agg #[.int .i64 a2_0, .int .i64 a2_1]] w fun e w' => e = .returned (.bool r) ∧ Below w.heap.size w w' := by
  have hu23 := Try.underlying23
  have HR0 := Aside0.mk hr0
  have HC0 := Aside0.mk hc0
  clear hr0 hc0
  have HB := Aside0.mk (Below.refl w.heap.size w)
  have H : ((plenumlaw13_awake.f k).bind fun t365 => (if t365 = true then ((plenumlaw13_few.f l0).bind fun t366 => (if t366 = true then (if a1 < 0 then (plenumlaw13_PriorityHighest.j0 k l0 a1 true a2_0 a2_1) else (plenumlaw13_PriorityHighest.j0 k l0 a1 (decide (a1 > 16)) a2_0 a2_1)) else (plenumlaw13_PriorityHighest.j0 k l0 a1 true a2_0 a2_1))) else (none))) = some r := h
  clear h
  replace H := Option.bind_eq_some_iff.mp H
  obtain ⟨t365, A40, H⟩ := H
  replace H : (if t365 = true then ((plenumlaw13_few.f l0).bind fun t366 => (if t366 = true then (if a1 < 0 then (plenumlaw13_PriorityHighest.j0 k l0 a1 true a2_0 a2_1) else (plenumlaw13_PriorityHighest.j0 k l0 a1 (decide (a1 > 16)) a2_0 a2_1)) else (plenumlaw13_PriorityHighest.j0 k l0 a1 true a2_0 a2_1))) else (none)) = some r := H
  have A4 := Aside0.mk A40
  clear A40
  by_cases c5 : t365 = true
  · subst c5
    have H1 : ((plenumlaw13_few.f l0).bind fun t366 => (if t366 = true then (if a1 < 0 then (plenumlaw13_PriorityHighest.j0 k l0 a1 true a2_0 a2_1) else (plenumlaw13_PriorityHighest.j0 k l0 a1 (decide (a1 > 16)) a2_0 a2_1)) else (plenumlaw13_PriorityHighest.j0 k l0 a1 true a2_0 a2_1))) = some r := by rw [if_pos rfl] at H; exact H
    clear H
    have H := H1
    clear H1
    have HC6 := Aside0.mk H
    clear H
    go_enter Try.func7, Try.ntmps7
    go_upto_region 3 with (first | ((with_reducible refine gate_dst (N := 5) rfl ?_); refine box_event ?hg (N := 5) ?hd (cs := #[.int .i64 a2_0, .int .i64 a2_1]) (t := 23) ?hr ?_; (case hd => rfl); (case hg => rfl); (case hr => first | (go_simp; done) | (go_simp; rfl)); intro gb364 hg w7 hbox hb; have n0_ := Aside0.mk (below_step (by repeat (first | (with_reducible first | exact HB.out | apply below_alloc | apply pw_below_drewN | apply below_drew1) | exact HB.out)) hb); have n1_ := Aside0.mk (hbox); have n2_ := Aside0.mk ((by rw [hg]; exact (below_size (by repeat (first | (with_reducible first | exact HB.out | apply below_alloc | apply pw_below_drewN | apply below_drew1) | exact HB.out))) : w.heap.size ≤ gb364)); have n3_ := Aside0.mk ((by rw [hg]; exact (below_size (by repeat (first | (with_reducible first | exact HB.out | apply below_alloc | apply pw_below_drewN | apply below_drew1) | exact HB.out))) : w.heap.size ≤ gb364)); clear HB; have HB := n0_; have BK364 := n1_; have GW364 := n2_; have GE364 := n3_; clear n0_ n1_ n2_ n3_; clear hb hbox hg) | ((with_reducible refine gate_callee (f := 10) rfl ?_); refine goesL_ (some 17) rfl rfl Try.func10 (by kernel_rfl) rfl #[] rfl (by (try simp only [List.map_toArray, List.map_cons, List.map_nil]); first | done | rfl | (simp only [List.length_drop, List.length_take]; rfl)) ?_; (with_reducible refine (plenumlaw13_awake.calls k  true _ A4.out).mono ?_); rintro e w8 ⟨rfl, hb⟩; refine ⟨_, rfl, ?_⟩; have n0_ := Aside0.mk (blk_below (g := gb364) (o := .cells #[.int .i64 a2_0, .int .i64 a2_1] 23 (0, 0)) (by (with_reducible repeat (first | refine blk_drewN ?_ _ | refine blk_drew ?_ | refine blk_alloc ?_ _)); exact BK364.out) hb); have n1_ := Aside0.mk (below_step (by repeat (first | (with_reducible first | exact HB.out | apply below_alloc | apply pw_below_drewN | apply below_drew1 | refine below_set ?_ GE364.out) | exact HB.out)) hb); clear BK364; clear HB; have BK364 := n0_; have HB := n1_; clear n0_ n1_; (try clear hb); (try clear hb2); (try clear hk); (try clear hi)))
    (try simp only [Act.put, List.setIfInBounds_toArray, List.set_cons_zero, List.set_cons_succ])
    go_cut [29] (fun v29 wc => ∃ (kq : Nat) (x29_5 : Bool), v29 = .bool x29_5 ∧ Aside0 (plenumlaw13_PriorityHighest.j0 kq l0 a1 x29_5 a2_0 a2_1 = some r) ∧ Aside0 (kq ≤ k) ∧ Aside0 (wc.heap[gb364]? = some (.cells #[.int .i64 a2_0, .int .i64 a2_1] 23 (0, 0))) ∧ Aside0 (Below w.heap.size w wc))
    case first =>
      have H := HC6.out
      clear HC6
      replace H := Option.bind_eq_some_iff.mp H
      obtain ⟨t366, A90, H⟩ := H
      replace H : (if t366 = true then (if a1 < 0 then (plenumlaw13_PriorityHighest.j0 k l0 a1 true a2_0 a2_1) else (plenumlaw13_PriorityHighest.j0 k l0 a1 (decide (a1 > 16)) a2_0 a2_1)) else (plenumlaw13_PriorityHighest.j0 k l0 a1 true a2_0 a2_1)) = some r := H
      have A9 := Aside0.mk A90
      clear A90
      by_cases c10 : t366 = true
      · subst c10
        have H1 : (if a1 < 0 then (plenumlaw13_PriorityHighest.j0 k l0 a1 true a2_0 a2_1) else (plenumlaw13_PriorityHighest.j0 k l0 a1 (decide (a1 > 16)) a2_0 a2_1)) = some r := by rw [if_pos rfl] at H; exact H
        clear H
        have H := H1
        clear H1
        by_cases c11 : a1 < 0
        · rw [if_pos c11] at H
          have c11b0 : decide (a1 < 0) = true := decide_eq_true c11
          clear c11
          (first | rw [c11b0] | (simp only [i64_w, i32_w]; rw [c11b0]) | skip)
          have H' := Aside0.mk H
          clear H
          go_wp2_with (first | ((with_reducible refine gate_callee (f := 11) rfl ?_); refine goesL_ (some 20) rfl rfl Try.func11 (by kernel_rfl) rfl #[.slice A0 l0.length c0] rfl (by (try simp only [List.map_toArray, List.map_cons, List.map_nil]); first | done | rfl | (simp only [List.length_drop, List.length_take]; rfl)) ?_; (with_reducible refine (plenumlaw13_few.calls _ _ l0 true _ ?side1 ?side2 A9.out).mono ?_); (case side1 => repeat (first | exact (Kd.C_below HR0.out HB.out) | (with_reducible refine Kd.C_alloc ?_ _) | (with_reducible refine Kd.C_drewN ?_ _) | (with_reducible refine Kd.C_drew ?_))); (case side2 => exact HC0.out); rintro e w' ⟨rfl, ⟨nd, rfl⟩⟩; refine ⟨_, rfl, ?_⟩))
          go_meet
          case rel => exact ⟨_, (true), (by first | rfl | (simp; done) | (simp [*]; done)), H', ⟨by first | omega | exact Nat.le_refl _⟩, ⟨by (with_reducible repeat (first | refine blk_drewN ?_ _ | refine blk_drew ?_ | refine blk_alloc ?_ _)); exact BK364.out⟩, ⟨by repeat (first | (with_reducible first | exact HB.out | apply below_alloc | apply pw_below_drewN | apply below_drew1 | refine below_set ?_ GE364.out) | exact HB.out)⟩⟩
        · rw [if_neg c11] at H
          have c11b0 : decide (a1 < 0) = false := decide_eq_false c11
          clear c11
          (first | rw [c11b0] | (simp only [i64_w, i32_w]; rw [c11b0]) | skip)
          have H' := Aside0.mk H
          clear H
          go_wp2_with (first | ((with_reducible refine gate_callee (f := 11) rfl ?_); refine goesL_ (some 20) rfl rfl Try.func11 (by kernel_rfl) rfl #[.slice A0 l0.length c0] rfl (by (try simp only [List.map_toArray, List.map_cons, List.map_nil]); first | done | rfl | (simp only [List.length_drop, List.length_take]; rfl)) ?_; (with_reducible refine (plenumlaw13_few.calls _ _ l0 true _ ?side1 ?side2 A9.out).mono ?_); (case side1 => repeat (first | exact (Kd.C_below HR0.out HB.out) | (with_reducible refine Kd.C_alloc ?_ _) | (with_reducible refine Kd.C_drewN ?_ _) | (with_reducible refine Kd.C_drew ?_))); (case side2 => exact HC0.out); rintro e w' ⟨rfl, ⟨nd, rfl⟩⟩; refine ⟨_, rfl, ?_⟩))
          go_meet
          case rel => exact ⟨_, (decide (a1 > 16)), (by first | rfl | (simp; done) | (simp [*]; done)), H', ⟨by first | omega | exact Nat.le_refl _⟩, ⟨by (with_reducible repeat (first | refine blk_drewN ?_ _ | refine blk_drew ?_ | refine blk_alloc ?_ _)); exact BK364.out⟩, ⟨by repeat (first | (with_reducible first | exact HB.out | apply below_alloc | apply pw_below_drewN | apply below_drew1 | refine below_set ?_ GE364.out) | exact HB.out)⟩⟩
      · replace c10 := Bool.eq_false_iff.mpr c10
        subst c10
        have H1 : (plenumlaw13_PriorityHighest.j0 k l0 a1 true a2_0 a2_1) = some r := by rw [if_neg (show ¬ (false = true) by decide)] at H; exact H
        clear H
        have H := H1
        clear H1
        have H' := Aside0.mk H
        clear H
        go_wp2_with (first | ((with_reducible refine gate_callee (f := 11) rfl ?_); refine goesL_ (some 20) rfl rfl Try.func11 (by kernel_rfl) rfl #[.slice A0 l0.length c0] rfl (by (try simp only [List.map_toArray, List.map_cons, List.map_nil]); first | done | rfl | (simp only [List.length_drop, List.length_take]; rfl)) ?_; (with_reducible refine (plenumlaw13_few.calls _ _ l0 false _ ?side1 ?side2 A9.out).mono ?_); (case side1 => repeat (first | exact (Kd.C_below HR0.out HB.out) | (with_reducible refine Kd.C_alloc ?_ _) | (with_reducible refine Kd.C_drewN ?_ _) | (with_reducible refine Kd.C_drew ?_))); (case side2 => exact HC0.out); rintro e w' ⟨rfl, ⟨nd, rfl⟩⟩; refine ⟨_, rfl, ?_⟩))
        go_meet
        case rel => exact ⟨_, (true), (by first | rfl | (simp; done) | (simp [*]; done)), H', ⟨by first | omega | exact Nat.le_refl _⟩, ⟨by (with_reducible repeat (first | refine blk_drewN ?_ _ | refine blk_drew ?_ | refine blk_alloc ?_ _)); exact BK364.out⟩, ⟨by repeat (first | (with_reducible first | exact HB.out | apply below_alloc | apply pw_below_drewN | apply below_drew1 | refine below_set ?_ GE364.out) | exact HB.out)⟩⟩
    case rest =>
      clear HC6
      try clear c1
      try clear p2
      try clear c5
      try clear c7
      try clear c10
      try clear c11
      try clear c11b0
      obtain ⟨kq, x29_5, rfl, HA, HJ5, BK364, HB⟩ := hcut
      cases kq with
      | zero => exact absurd HA.out (by simp [plenumlaw13_PriorityHighest.j0])
      | succ kj5 =>
        have H := HA.out
        clear HA
        simp only [plenumlaw13_PriorityHighest.j0] at H
        by_cases c12 : x29_5 = true
        · subst c12
          have H1 : (some true) = some r := by rw [if_pos rfl] at H; exact H
          clear H
          have H := H1
          clear H1
          obtain rfl := Option.some.inj H
          go_wp2
          go_ret
          exact ⟨by first | rfl | (simp [errW_none, errW_some] <;> rfl) | (simp [*, errW_none, errW_some] <;> rfl), by repeat (first | (with_reducible first | exact HB.out | apply below_alloc | apply pw_below_drewN | apply below_drew1 | refine below_set ?_ GE364.out) | exact HB.out)⟩
        · replace c12 := Bool.eq_false_iff.mpr c12
          subst c12
          have H1 : ((priority_Under.f l0 a1 a2_0 a2_1).bind fun bt367 => (if bt367.2.2.2 = 0 then (if bt367.1 ≤ a1 then (plenumlaw13_PriorityHighest.j1 kj5 l0 a1 bt367.1 true a2_0 a2_1 bt367.2.1 bt367.2.2.1) else (plenumlaw13_PriorityHighest.j1 kj5 l0 a1 bt367.1 (decide (bt367.1 > 17)) a2_0 a2_1 bt367.2.1 bt367.2.2.1)) else (plenumlaw13_PriorityHighest.j1 kj5 l0 a1 bt367.1 true a2_0 a2_1 bt367.2.1 bt367.2.2.1))) = some r := by rw [if_neg (show ¬ (false = true) by decide)] at H; exact H
          clear H
          have H := H1
          clear H1
          replace H := Option.bind_eq_some_iff.mp H
          obtain ⟨⟨t367, t368, t369, t370⟩, A130, H⟩ := H
          replace H : (if t370 = 0 then (if t367 ≤ a1 then (plenumlaw13_PriorityHighest.j1 kj5 l0 a1 t367 true a2_0 a2_1 t368 t369) else (plenumlaw13_PriorityHighest.j1 kj5 l0 a1 t367 (decide (t367 > 17)) a2_0 a2_1 t368 t369)) else (plenumlaw13_PriorityHighest.j1 kj5 l0 a1 t367 true a2_0 a2_1 t368 t369)) = some r := H
          have A13 := Aside0.mk A130
          clear A130
          have HC14 := Aside0.mk H
          clear H
          have hcz15_0 : wc.cell? ⟨gb364, 0, none⟩ = some (.int .i64 a2_0) := (blk_cell BK364.out 0).trans rfl
          have hcz15_1 : wc.cell? ⟨gb364, 1, none⟩ = some (.int .i64 a2_1) := (blk_cell BK364.out 1).trans rfl
          have hfz15_0 := blk_frozen BK364.out 0
          have hfz15_1 := blk_frozen BK364.out 1
          go_upto_region 6 with (first | ((with_reducible refine gate_callee (f := 25) rfl ?_); refine goesL_ (some 34) rfl rfl Try.func25 (by kernel_rfl) rfl #[.slice A0 l0.length c0, .int .i64 a1, .agg #[.int .i64 a2_0, .int .i64 a2_1]] rfl (by (try simp only [List.map_toArray, List.map_cons, List.map_nil]); first | done | rfl | (simp only [List.length_drop, List.length_take]; rfl)) ?_; (with_reducible refine (priority_Under.calls _ _ l0 a1 a2_0 a2_1 t367 t368 t369 t370 _ ?side1 ?side2 A13.out).mono ?_); (case side1 => repeat (first | exact (Kd.C_below HR0.out HB.out) | (with_reducible refine Kd.C_alloc ?_ _) | (with_reducible refine Kd.C_drewN ?_ _) | (with_reducible refine Kd.C_drew ?_))); (case side2 => exact HC0.out); rintro e w16 ⟨rfl, hb⟩; refine ⟨_, rfl, ?_⟩; have n0_ := Aside0.mk (blk_below (g := gb364) (o := .cells #[.int .i64 a2_0, .int .i64 a2_1] 23 (0, 0)) (by (with_reducible repeat (first | refine blk_drewN ?_ _ | refine blk_drew ?_ | refine blk_alloc ?_ _)); exact BK364.out) hb); have n1_ := Aside0.mk (below_step (by repeat (first | (with_reducible first | exact HB.out | apply below_alloc | apply pw_below_drewN | apply below_drew1 | refine below_set ?_ GE364.out) | exact HB.out)) hb); clear BK364; clear HB; have BK364 := n0_; have HB := n1_; clear n0_ n1_; (try clear hb); (try clear hb2); (try clear hk); (try clear hi)) | ((with_reducible refine gate_dst (N := 8) rfl ?_); refine box_event ?hg (N := 8) ?hd (cs := #[.int .i64 0, .int .i64 0]) (t := 23) ?hr ?_; (case hd => rfl); (case hg => rfl); (case hr => first | (go_simp; done) | (go_simp; rfl)); intro gb371 hg w17 hbox hb; have n0_ := Aside0.mk (blk_below (g := gb364) (o := .cells #[.int .i64 a2_0, .int .i64 a2_1] 23 (0, 0)) (by (with_reducible repeat (first | refine blk_drewN ?_ _ | refine blk_drew ?_ | refine blk_alloc ?_ _)); exact BK364.out) hb); have n1_ := Aside0.mk (below_step (by repeat (first | (with_reducible first | exact HB.out | apply below_alloc | apply pw_below_drewN | apply below_drew1 | refine below_set ?_ GE364.out) | exact HB.out)) hb); have n2_ := Aside0.mk (hbox); have n3_ := Aside0.mk ((by rw [hg]; exact (below_size (by repeat (first | (with_reducible first | exact HB.out | apply below_alloc | apply pw_below_drewN | apply below_drew1 | refine below_set ?_ GE364.out) | exact HB.out))) : w.heap.size ≤ gb371)); have n4_ := Aside0.mk ((by rw [hg]; exact (below_size (by repeat (first | (with_reducible first | exact HB.out | apply below_alloc | apply pw_below_drewN | apply below_drew1 | refine below_set ?_ GE364.out) | exact HB.out))) : w.heap.size ≤ gb371)); have n5_ := Aside0.mk ((by rw [hg]; exact Nat.ne_of_lt (blk_lt (g := gb364) (o := .cells #[.int .i64 a2_0, .int .i64 a2_1] 23 (0, 0)) (by (with_reducible repeat (first | refine blk_drewN ?_ _ | refine blk_drew ?_ | refine blk_alloc ?_ _)); exact BK364.out)) : gb364 ≠ gb371)); have n6_ := Aside0.mk ((by rw [hg]; exact Nat.ne_of_gt (blk_lt (g := gb364) (o := .cells #[.int .i64 a2_0, .int .i64 a2_1] 23 (0, 0)) (by (with_reducible repeat (first | refine blk_drewN ?_ _ | refine blk_drew ?_ | refine blk_alloc ?_ _)); exact BK364.out)) : gb371 ≠ gb364)); clear BK364; clear HB; have BK364 := n0_; have HB := n1_; have BK371 := n2_; have GW371 := n3_; have GE371 := n4_; have NB364_371 := n5_; have NB371_364 := n6_; clear n0_ n1_ n2_ n3_ n4_ n5_ n6_; clear hb hbox hg; have hnb18 := NB371_364.out; have hnc18 := NB364_371.out; have hcz19_0 : w17.cell? ⟨gb371, 0, none⟩ = some (.int .i64 0) := (blk_cell BK371.out 0).trans rfl; have hcz19_1 : w17.cell? ⟨gb371, 1, none⟩ = some (.int .i64 0) := (blk_cell BK371.out 1).trans rfl; have hfz19_0 := blk_frozen BK371.out 0; have hfz19_1 := blk_frozen BK371.out 1))
          (try simp only [Act.put, List.setIfInBounds_toArray, List.set_cons_zero, List.set_cons_succ])
          go_cut [48] (fun v48 wc => ∃ (kq : Nat) (x48_13 : Bool), v48 = .bool x48_13 ∧ Aside0 (plenumlaw13_PriorityHighest.j1 kq l0 a1 t367 x48_13 a2_0 a2_1 t368 t369 = some r) ∧ Aside0 (kq ≤ kj5) ∧ Aside0 (wc.heap[gb364]? = some (.cells #[.int .i64 a2_0, .int .i64 a2_1] 23 (0, 0))) ∧ Aside0 (wc.heap[gb371]? = some (.cells #[.int .i64 t368, .int .i64 t369] 23 (0, 0))) ∧ Aside0 (Below w.heap.size w wc))
          case first =>
            have H := HC14.out
            clear HC14
            by_cases c20 : t370 = 0
            · rw [if_pos c20] at H
              have c20b0 : (t370 == 0) = true := beq_iff_eq.mpr c20
              have c20b1 : (t370 != 0) = false := bne_eq_false_iff_eq.mpr c20
              clear c20
              (first | rw [c20b0] | (simp only [i64_w, i32_w]; rw [c20b0]) | skip)
              by_cases c21 : t367 ≤ a1
              · rw [if_pos c21] at H
                have c21b0 : decide (t367 ≤ a1) = true := decide_eq_true c21
                clear c21
                have H' := Aside0.mk H
                clear H
                go_wp2
                go_meet
                case rel => exact ⟨_, (true), (by first | rfl | (simp; done) | (simp [*]; done)), H', ⟨by have := HJ5.out; first | omega | exact Nat.le_refl _⟩, ⟨by (with_reducible repeat (first | refine blk_drewN ?_ _ | refine blk_drew ?_ | refine blk_alloc ?_ _)); refine blk_far ?_ NB364_371.out _; (with_reducible repeat (first | refine blk_drewN ?_ _ | refine blk_drew ?_ | refine blk_alloc ?_ _)); refine blk_far ?_ NB364_371.out _; (with_reducible repeat (first | refine blk_drewN ?_ _ | refine blk_drew ?_ | refine blk_alloc ?_ _)); exact BK364.out⟩, ⟨by (with_reducible repeat (first | refine blk_drewN ?_ _ | refine blk_drew ?_ | refine blk_alloc ?_ _)); refine blk_put (cs := #[.int .i64 t368, .int .i64 0]) ?_ 1 _ rfl; (with_reducible repeat (first | refine blk_drewN ?_ _ | refine blk_drew ?_ | refine blk_alloc ?_ _)); refine blk_put (cs := #[.int .i64 0, .int .i64 0]) ?_ 0 _ rfl; (with_reducible repeat (first | refine blk_drewN ?_ _ | refine blk_drew ?_ | refine blk_alloc ?_ _)); exact BK371.out⟩, ⟨by repeat (first | (with_reducible first | exact HB.out | apply below_alloc | apply pw_below_drewN | apply below_drew1 | refine below_set ?_ GE364.out | refine below_set ?_ GE371.out) | exact HB.out)⟩⟩
              · rw [if_neg c21] at H
                have c21b0 : decide (t367 ≤ a1) = false := decide_eq_false c21
                clear c21
                have H' := Aside0.mk H
                clear H
                go_wp2
                go_meet
                case rel => exact ⟨_, (decide (t367 > 17)), (by first | rfl | (simp; done) | (simp [*]; done)), H', ⟨by have := HJ5.out; first | omega | exact Nat.le_refl _⟩, ⟨by (with_reducible repeat (first | refine blk_drewN ?_ _ | refine blk_drew ?_ | refine blk_alloc ?_ _)); refine blk_far ?_ NB364_371.out _; (with_reducible repeat (first | refine blk_drewN ?_ _ | refine blk_drew ?_ | refine blk_alloc ?_ _)); refine blk_far ?_ NB364_371.out _; (with_reducible repeat (first | refine blk_drewN ?_ _ | refine blk_drew ?_ | refine blk_alloc ?_ _)); exact BK364.out⟩, ⟨by (with_reducible repeat (first | refine blk_drewN ?_ _ | refine blk_drew ?_ | refine blk_alloc ?_ _)); refine blk_put (cs := #[.int .i64 t368, .int .i64 0]) ?_ 1 _ rfl; (with_reducible repeat (first | refine blk_drewN ?_ _ | refine blk_drew ?_ | refine blk_alloc ?_ _)); refine blk_put (cs := #[.int .i64 0, .int .i64 0]) ?_ 0 _ rfl; (with_reducible repeat (first | refine blk_drewN ?_ _ | refine blk_drew ?_ | refine blk_alloc ?_ _)); exact BK371.out⟩, ⟨by repeat (first | (with_reducible first | exact HB.out | apply below_alloc | apply pw_below_drewN | apply below_drew1 | refine below_set ?_ GE364.out | refine below_set ?_ GE371.out) | exact HB.out)⟩⟩
            · rw [if_neg c20] at H
              have c20b0 : (t370 == 0) = false := beq_eq_false_iff_ne.mpr c20
              have c20b1 : (t370 != 0) = true := bne_iff_ne.mpr c20
              (first | rw [c20b0] | (simp only [i64_w, i32_w]; rw [c20b0]) | skip)
              have H' := Aside0.mk H
              clear H
              go_wp2
              go_meet
              case rel => exact ⟨_, (true), (by first | rfl | (simp; done) | (simp [*]; done)), H', ⟨by have := HJ5.out; first | omega | exact Nat.le_refl _⟩, ⟨by (with_reducible repeat (first | refine blk_drewN ?_ _ | refine blk_drew ?_ | refine blk_alloc ?_ _)); refine blk_far ?_ NB364_371.out _; (with_reducible repeat (first | refine blk_drewN ?_ _ | refine blk_drew ?_ | refine blk_alloc ?_ _)); refine blk_far ?_ NB364_371.out _; (with_reducible repeat (first | refine blk_drewN ?_ _ | refine blk_drew ?_ | refine blk_alloc ?_ _)); exact BK364.out⟩, ⟨by (with_reducible repeat (first | refine blk_drewN ?_ _ | refine blk_drew ?_ | refine blk_alloc ?_ _)); refine blk_put (cs := #[.int .i64 t368, .int .i64 0]) ?_ 1 _ rfl; (with_reducible repeat (first | refine blk_drewN ?_ _ | refine blk_drew ?_ | refine blk_alloc ?_ _)); refine blk_put (cs := #[.int .i64 0, .int .i64 0]) ?_ 0 _ rfl; (with_reducible repeat (first | refine blk_drewN ?_ _ | refine blk_drew ?_ | refine blk_alloc ?_ _)); exact BK371.out⟩, ⟨by repeat (first | (with_reducible first | exact HB.out | apply below_alloc | apply pw_below_drewN | apply below_drew1 | refine below_set ?_ GE364.out | refine below_set ?_ GE371.out) | exact HB.out)⟩⟩
          case rest =>
            clear HC14
            try clear c1
            try clear c2
            try clear p2
            try clear c5
            try clear c7
            try clear c10
            try clear c11
            try clear c11b0
            try clear c12
            try clear c18
            try clear c20
            try clear c20b0
            try clear c20b1
            try clear c21
            try clear c21b0
            try clear hcz15_0
            try clear hcz15_1
            try clear hcz19_0
            try clear hcz19_1
            try clear hfz15_0
            try clear hfz15_1
            try clear hfz19_0
            try clear hfz19_1
            try clear p2
            obtain ⟨kq, x48_13, rfl, HA, HJ13, BK364, BK371, HB⟩ := hcut
            cases kq with
            | zero => exact absurd HA.out (by simp [plenumlaw13_PriorityHighest.j1])
            | succ kj13 =>
              have H := HA.out
              clear HA
              simp only [plenumlaw13_PriorityHighest.j1] at H
              by_cases c22 : x48_13 = true
              · subst c22
                have H1 : (none) = some r := by rw [if_pos rfl] at H; exact H
                clear H
                have H := H1
                clear H1
                exact absurd H (by simp)
              · replace c22 := Bool.eq_false_iff.mpr c22
                subst c22
                have H1 : (plenumlaw13_PriorityHighest.l0 kj13 l0 a1 t367 (wrap64 (a1 + 1)) a2_0 a2_1 t368 t369) = some r := by rw [if_neg (show ¬ (false = true) by decide)] at H; exact H
                clear H
                have H := H1
                clear H1
                have H' := Aside0.mk H
                clear H
                go_wp2
                go_loopg [10] kj13 (fun kq v10 w' => ∃ (x10_3 : Int), v10 = .int .i64 x10_3 ∧ Aside0 (plenumlaw13_PriorityHighest.l0 kq l0 a1 t367 x10_3 a2_0 a2_1 t368 t369 = some r) ∧ Aside0 (kq ≤ kj13) ∧ Aside0 (w'.heap[gb364]? = some (.cells #[.int .i64 a2_0, .int .i64 a2_1] 23 (0, 0))) ∧ Aside0 (w'.heap[gb371]? = some (.cells #[.int .i64 t368, .int .i64 t369] 23 (0, 0))) ∧ Aside0 (Below w.heap.size w w'))
                case atStart => exact ⟨(wrap64 (a1 + 1)), (by first | rfl | (simp; done) | (simp [*]; done)), H', ⟨Nat.le_refl _⟩, ⟨by (with_reducible repeat (first | refine blk_drewN ?_ _ | refine blk_drew ?_ | refine blk_alloc ?_ _)); exact BK364.out⟩, ⟨by (with_reducible repeat (first | refine blk_drewN ?_ _ | refine blk_drew ?_ | refine blk_alloc ?_ _)); exact BK371.out⟩, ⟨by repeat (first | (with_reducible first | exact HB.out | apply below_alloc | apply pw_below_drewN | apply below_drew1 | refine below_set ?_ GE364.out | refine below_set ?_ GE371.out) | exact HB.out)⟩⟩
                case round =>
                  clear H'
                  try clear c1
                  try clear c2
                  try clear p2
                  try clear c5
                  try clear p6
                  try clear c7
                  try clear c10
                  try clear c11
                  try clear c11b0
                  try clear c12
                  try clear c18
                  try clear c20
                  try clear c20b0
                  try clear c20b1
                  try clear c21
                  try clear c21b0
                  try clear c22
                  try clear hcz15_0
                  try clear hcz15_1
                  try clear hcz19_0
                  try clear hcz19_1
                  try clear hfz15_0
                  try clear hfz15_1
                  try clear hfz19_0
                  try clear hfz19_1
                  try clear p2
                  obtain ⟨x10_3, rfl, HA, HK3, BK364, BK371, HB⟩ := hrel
                  cases gk with
                  | zero => exact absurd HA.out (by simp [plenumlaw13_PriorityHighest.l0])
                  | succ k3 =>
                    have H := HA.out
                    clear HA
                    simp only [plenumlaw13_PriorityHighest.l0] at H
                    by_cases c23 : x10_3 < t367
                    · rw [if_pos c23] at H
                      have c23b0 : decide (x10_3 < t367) = true := decide_eq_true c23
                      clear c23
                      replace H := Option.bind_eq_some_iff.mp H
                      obtain ⟨⟨t372, t373, t374⟩, A240, H⟩ := H
                      replace H : (if t374 = 0 then (if t372 = 0 then (plenumlaw13_PriorityHighest.l0 k3 l0 a1 t367 (wrap64 (x10_3 + 1)) a2_0 a2_1 t368 t369) else (none)) else (none)) = some r := H
                      have A24 := Aside0.mk A240
                      clear A240
                      by_cases c25 : t374 = 0
                      · rw [if_pos c25] at H
                        have c25b0 : (t374 == 0) = true := beq_iff_eq.mpr c25
                        have c25b1 : (t374 != 0) = false := bne_eq_false_iff_eq.mpr c25
                        clear c25
                        by_cases c26 : t372 = 0
                        · rw [if_pos c26] at H
                          have c26b0 : (t372 == 0) = true := beq_iff_eq.mpr c26
                          have c26b1 : (t372 != 0) = false := bne_eq_false_iff_eq.mpr c26
                          clear c26
                          have H' := Aside0.mk H
                          clear H
                          go_wp2_with (first | ((with_reducible refine gate_callee (f := 23) rfl ?_); refine goesL_ (some 59) rfl rfl Try.func23 (by kernel_rfl) rfl #[.slice A0 l0.length c0, .int .i64 x10_3] rfl (by (try simp only [List.map_toArray, List.map_cons, List.map_nil]); first | done | rfl | (simp only [List.length_drop, List.length_take]; rfl)) ?_; (with_reducible refine (priority_Slot.calls _ _ l0 x10_3 t372 t373 t374 _ ?side1 ?side2 A24.out).mono ?_); (case side1 => repeat (first | exact (Kd.C_below HR0.out HB.out) | (with_reducible refine Kd.C_alloc ?_ _) | (with_reducible refine Kd.C_drewN ?_ _) | (with_reducible refine Kd.C_drew ?_))); (case side2 => exact HC0.out); rintro e w27 ⟨rfl, hb⟩; refine ⟨_, rfl, ?_⟩; have n0_ := Aside0.mk (blk_below (g := gb364) (o := .cells #[.int .i64 a2_0, .int .i64 a2_1] 23 (0, 0)) (by (with_reducible repeat (first | refine blk_drewN ?_ _ | refine blk_drew ?_ | refine blk_alloc ?_ _)); exact BK364.out) hb); have n1_ := Aside0.mk (blk_below (g := gb371) (o := .cells #[.int .i64 t368, .int .i64 t369] 23 (0, 0)) (by (with_reducible repeat (first | refine blk_drewN ?_ _ | refine blk_drew ?_ | refine blk_alloc ?_ _)); exact BK371.out) hb); have n2_ := Aside0.mk (below_step (by repeat (first | (with_reducible first | exact HB.out | apply below_alloc | apply pw_below_drewN | apply below_drew1 | refine below_set ?_ GE364.out | refine below_set ?_ GE371.out) | exact HB.out)) hb); clear BK364; clear BK371; clear HB; have BK364 := n0_; have BK371 := n1_; have HB := n2_; clear n0_ n1_ n2_; (try clear hb); (try clear hb2); (try clear hk); (try clear hi)) | ((with_reducible refine gate_dst (N := 11) rfl ?_); refine box_event ?hg (N := 11) ?hd (cs := #[.int .i64 0, .int .i64 0]) (t := 23) ?hr ?_; (case hd => rfl); (case hg => rfl); (case hr => first | (go_simp; done) | (go_simp; rfl)); intro gb375 hg w28 hbox hb; have n0_ := Aside0.mk (blk_below (g := gb364) (o := .cells #[.int .i64 a2_0, .int .i64 a2_1] 23 (0, 0)) (by (with_reducible repeat (first | refine blk_drewN ?_ _ | refine blk_drew ?_ | refine blk_alloc ?_ _)); exact BK364.out) hb); have n1_ := Aside0.mk (blk_below (g := gb371) (o := .cells #[.int .i64 t368, .int .i64 t369] 23 (0, 0)) (by (with_reducible repeat (first | refine blk_drewN ?_ _ | refine blk_drew ?_ | refine blk_alloc ?_ _)); exact BK371.out) hb); have n2_ := Aside0.mk (below_step (by repeat (first | (with_reducible first | exact HB.out | apply below_alloc | apply pw_below_drewN | apply below_drew1 | refine below_set ?_ GE364.out | refine below_set ?_ GE371.out) | exact HB.out)) hb); have n3_ := Aside0.mk (hbox); have n4_ := Aside0.mk ((by rw [hg]; exact (below_size (by repeat (first | (with_reducible first | exact HB.out | apply below_alloc | apply pw_below_drewN | apply below_drew1 | refine below_set ?_ GE364.out | refine below_set ?_ GE371.out) | exact HB.out))) : w.heap.size ≤ gb375)); have n5_ := Aside0.mk ((by rw [hg]; exact (below_size (by repeat (first | (with_reducible first | exact HB.out | apply below_alloc | apply pw_below_drewN | apply below_drew1 | refine below_set ?_ GE364.out | refine below_set ?_ GE371.out) | exact HB.out))) : w.heap.size ≤ gb375)); have n6_ := Aside0.mk ((by rw [hg]; exact Nat.ne_of_lt (blk_lt (g := gb364) (o := .cells #[.int .i64 a2_0, .int .i64 a2_1] 23 (0, 0)) (by (with_reducible repeat (first | refine blk_drewN ?_ _ | refine blk_drew ?_ | refine blk_alloc ?_ _)); exact BK364.out)) : gb364 ≠ gb375)); have n7_ := Aside0.mk ((by rw [hg]; exact Nat.ne_of_gt (blk_lt (g := gb364) (o := .cells #[.int .i64 a2_0, .int .i64 a2_1] 23 (0, 0)) (by (with_reducible repeat (first | refine blk_drewN ?_ _ | refine blk_drew ?_ | refine blk_alloc ?_ _)); exact BK364.out)) : gb375 ≠ gb364)); have n8_ := Aside0.mk ((by rw [hg]; exact Nat.ne_of_lt (blk_lt (g := gb371) (o := .cells #[.int .i64 t368, .int .i64 t369] 23 (0, 0)) (by (with_reducible repeat (first | refine blk_drewN ?_ _ | refine blk_drew ?_ | refine blk_alloc ?_ _)); exact BK371.out)) : gb371 ≠ gb375)); have n9_ := Aside0.mk ((by rw [hg]; exact Nat.ne_of_gt (blk_lt (g := gb371) (o := .cells #[.int .i64 t368, .int .i64 t369] 23 (0, 0)) (by (with_reducible repeat (first | refine blk_drewN ?_ _ | refine blk_drew ?_ | refine blk_alloc ?_ _)); exact BK371.out)) : gb375 ≠ gb371)); clear BK364; clear BK371; clear HB; have BK364 := n0_; have BK371 := n1_; have HB := n2_; have BK375 := n3_; have GW375 := n4_; have GE375 := n5_; have NB364_375 := n6_; have NB375_364 := n7_; have NB371_375 := n8_; have NB375_371 := n9_; clear n0_ n1_ n2_ n3_ n4_ n5_ n6_ n7_ n8_ n9_; clear hb hbox hg; have hnb29 := NB375_364.out; have hnc29 := NB364_375.out; have hnb30 := NB375_371.out; have hnc30 := NB371_375.out; have hcz31_0 : w28.cell? ⟨gb375, 0, none⟩ = some (.int .i64 0) := (blk_cell BK375.out 0).trans rfl; have hcz31_1 : w28.cell? ⟨gb375, 1, none⟩ = some (.int .i64 0) := (blk_cell BK375.out 1).trans rfl; have hfz31_0 := blk_frozen BK375.out 0; have hfz31_1 := blk_frozen BK375.out 1))
                          go_roundg k3
                          case measure => have := HJ5.out; have := HJ13.out; have := HK3.out; omega
                          case rel => exact ⟨(wrap64 (x10_3 + 1)), (by first | rfl | (simp; done) | (simp [*]; done)), H', ⟨by have := HJ5.out; have := HJ13.out; have := HK3.out; omega⟩, ⟨by (with_reducible repeat (first | refine blk_drewN ?_ _ | refine blk_drew ?_ | refine blk_alloc ?_ _)); refine blk_far ?_ NB364_375.out _; (with_reducible repeat (first | refine blk_drewN ?_ _ | refine blk_drew ?_ | refine blk_alloc ?_ _)); refine blk_far ?_ NB364_375.out _; (with_reducible repeat (first | refine blk_drewN ?_ _ | refine blk_drew ?_ | refine blk_alloc ?_ _)); exact BK364.out⟩, ⟨by (with_reducible repeat (first | refine blk_drewN ?_ _ | refine blk_drew ?_ | refine blk_alloc ?_ _)); refine blk_far ?_ NB371_375.out _; (with_reducible repeat (first | refine blk_drewN ?_ _ | refine blk_drew ?_ | refine blk_alloc ?_ _)); refine blk_far ?_ NB371_375.out _; (with_reducible repeat (first | refine blk_drewN ?_ _ | refine blk_drew ?_ | refine blk_alloc ?_ _)); exact BK371.out⟩, ⟨by repeat (first | (with_reducible first | exact HB.out | apply below_alloc | apply pw_below_drewN | apply below_drew1 | refine below_set ?_ GE364.out | refine below_set ?_ GE371.out | refine below_set ?_ GE375.out) | exact HB.out)⟩⟩
                        · rw [if_neg c26] at H
                          exact absurd H (by simp)
                      · rw [if_neg c25] at H
                        exact absurd H (by simp)
                    · rw [if_neg c23] at H
                      have c23b0 : decide (x10_3 < t367) = false := decide_eq_false c23
                      clear c23
                      by_cases c32 : t367 = 17
                      · rw [if_pos c32] at H
                        have c32b0 : (t367 == 17) = true := beq_iff_eq.mpr c32
                        have c32b1 : (t367 != 17) = false := bne_eq_false_iff_eq.mpr c32
                        clear c32
                        obtain rfl := Option.some.inj H
                        have hnb33 := NB371_364.out
                        have hnc33 := NB364_371.out
                        have hcz34_0 : wr.cell? ⟨gb371, 0, none⟩ = some (.int .i64 t368) := (blk_cell BK371.out 0).trans rfl
                        have hcz34_1 : wr.cell? ⟨gb371, 1, none⟩ = some (.int .i64 t369) := (blk_cell BK371.out 1).trans rfl
                        have hfz34_0 := blk_frozen BK371.out 0
                        have hfz34_1 := blk_frozen BK371.out 1
                        have hcz35_0 : wr.cell? ⟨gb364, 0, none⟩ = some (.int .i64 a2_0) := (blk_cell BK364.out 0).trans rfl
                        have hcz35_1 : wr.cell? ⟨gb364, 1, none⟩ = some (.int .i64 a2_1) := (blk_cell BK364.out 1).trans rfl
                        have hfz35_0 := blk_frozen BK364.out 0
                        have hfz35_1 := blk_frozen BK364.out 1
                        go_wp2
                        go_ret
                        exact ⟨by first | rfl | (simp [errW_none, errW_some] <;> rfl) | (simp [*, errW_none, errW_some] <;> rfl), by repeat (first | (with_reducible first | exact HB.out | apply below_alloc | apply pw_below_drewN | apply below_drew1 | refine below_set ?_ GE364.out | refine below_set ?_ GE371.out) | exact HB.out)⟩
                      · rw [if_neg c32] at H
                        have c32b0 : (t367 == 17) = false := beq_eq_false_iff_ne.mpr c32
                        have c32b1 : (t367 != 17) = true := bne_iff_ne.mpr c32
                        replace H := Option.bind_eq_some_iff.mp H
                        obtain ⟨⟨t376, t377, t378⟩, A360, H⟩ := H
                        replace H : ((priority_Active.f l0 a2_0 a2_1).bind fun bt380 => (if t378 = 0 then (if (t376 == t368 && (t377 == t369)) = true then (if t376 = 0 then (none) else (if a1 > 0 then (some true) else (if bt380.1 = t367 then (some (bt380.2.1 == t368 && (bt380.2.2 == t369))) else (none)))) else (none)) else (none))) = some r := H
                        have A36 := Aside0.mk A360
                        clear A360
                        replace H := Option.bind_eq_some_iff.mp H
                        obtain ⟨⟨t380, t381, t382⟩, A370, H⟩ := H
                        replace H : (if t378 = 0 then (if (t376 == t368 && (t377 == t369)) = true then (if t376 = 0 then (none) else (if a1 > 0 then (some true) else (if t380 = t367 then (some (t381 == t368 && (t382 == t369))) else (none)))) else (none)) else (none)) = some r := H
                        have A37 := Aside0.mk A370
                        clear A370
                        by_cases c38 : t378 = 0
                        · rw [if_pos c38] at H
                          have c38b0 : (t378 == 0) = true := beq_iff_eq.mpr c38
                          have c38b1 : (t378 != 0) = false := bne_eq_false_iff_eq.mpr c38
                          clear c38
                          by_cases c39 : (t376 == t368 && (t377 == t369)) = true
                          · rw [if_pos c39] at H
                            have c39b0 : (t376 == t368 && (t377 == t369)) = true := c39
                            (try (have c39b1 : decide (t376 = t368 && (t377 == t369)) = true := by simpa using c39))
                            (try (have c39b2 : (t376 == t368 && (t377 == t369)) = true := by simpa using c39))
                            clear c39
                            by_cases c40 : t376 = 0
                            · rw [if_pos c40] at H
                              exact absurd H (by simp)
                            · rw [if_neg c40] at H
                              have c40b0 : (t376 == 0) = false := beq_eq_false_iff_ne.mpr c40
                              have c40b1 : (t376 != 0) = true := bne_iff_ne.mpr c40
                              by_cases c41 : a1 > 0
                              · rw [if_pos c41] at H
                                have c41b0 : decide (0 < a1) = true := decide_eq_true c41
                                clear c41
                                obtain rfl := Option.some.inj H
                                go_wp2_with (first | ((with_reducible refine gate_callee (f := 23) rfl ?_); refine goesL_ (some 77) rfl rfl Try.func23 (by kernel_rfl) rfl #[.slice A0 l0.length c0, .int .i64 t367] rfl (by (try simp only [List.map_toArray, List.map_cons, List.map_nil]); first | done | rfl | (simp only [List.length_drop, List.length_take]; rfl)) ?_; (with_reducible refine (priority_Slot.calls _ _ l0 t367 t376 t377 t378 _ ?side1 ?side2 A36.out).mono ?_); (case side1 => repeat (first | exact (Kd.C_below HR0.out HB.out) | (with_reducible refine Kd.C_alloc ?_ _) | (with_reducible refine Kd.C_drewN ?_ _) | (with_reducible refine Kd.C_drew ?_))); (case side2 => exact HC0.out); rintro e w42 ⟨rfl, hb⟩; refine ⟨_, rfl, ?_⟩; have n0_ := Aside0.mk (blk_below (g := gb364) (o := .cells #[.int .i64 a2_0, .int .i64 a2_1] 23 (0, 0)) (by (with_reducible repeat (first | refine blk_drewN ?_ _ | refine blk_drew ?_ | refine blk_alloc ?_ _)); exact BK364.out) hb); have n1_ := Aside0.mk (blk_below (g := gb371) (o := .cells #[.int .i64 t368, .int .i64 t369] 23 (0, 0)) (by (with_reducible repeat (first | refine blk_drewN ?_ _ | refine blk_drew ?_ | refine blk_alloc ?_ _)); exact BK371.out) hb); have n2_ := Aside0.mk (below_step (by repeat (first | (with_reducible first | exact HB.out | apply below_alloc | apply pw_below_drewN | apply below_drew1 | refine below_set ?_ GE364.out | refine below_set ?_ GE371.out) | exact HB.out)) hb); clear BK364; clear BK371; clear HB; have BK364 := n0_; have BK371 := n1_; have HB := n2_; clear n0_ n1_ n2_; (try clear hb); (try clear hb2); (try clear hk); (try clear hi)) | ((with_reducible refine gate_dst (N := 13) rfl ?_); refine box_event ?hg (N := 13) ?hd (cs := #[.int .i64 0, .int .i64 0]) (t := 23) ?hr ?_; (case hd => rfl); (case hg => rfl); (case hr => first | (go_simp; done) | (go_simp; rfl)); intro gb379 hg w43 hbox hb; have n0_ := Aside0.mk (blk_below (g := gb364) (o := .cells #[.int .i64 a2_0, .int .i64 a2_1] 23 (0, 0)) (by (with_reducible repeat (first | refine blk_drewN ?_ _ | refine blk_drew ?_ | refine blk_alloc ?_ _)); exact BK364.out) hb); have n1_ := Aside0.mk (blk_below (g := gb371) (o := .cells #[.int .i64 t368, .int .i64 t369] 23 (0, 0)) (by (with_reducible repeat (first | refine blk_drewN ?_ _ | refine blk_drew ?_ | refine blk_alloc ?_ _)); exact BK371.out) hb); have n2_ := Aside0.mk (below_step (by repeat (first | (with_reducible first | exact HB.out | apply below_alloc | apply pw_below_drewN | apply below_drew1 | refine below_set ?_ GE364.out | refine below_set ?_ GE371.out) | exact HB.out)) hb); have n3_ := Aside0.mk (hbox); have n4_ := Aside0.mk ((by rw [hg]; exact (below_size (by repeat (first | (with_reducible first | exact HB.out | apply below_alloc | apply pw_below_drewN | apply below_drew1 | refine below_set ?_ GE364.out | refine below_set ?_ GE371.out) | exact HB.out))) : w.heap.size ≤ gb379)); have n5_ := Aside0.mk ((by rw [hg]; exact (below_size (by repeat (first | (with_reducible first | exact HB.out | apply below_alloc | apply pw_below_drewN | apply below_drew1 | refine below_set ?_ GE364.out | refine below_set ?_ GE371.out) | exact HB.out))) : w.heap.size ≤ gb379)); have n6_ := Aside0.mk ((by rw [hg]; exact Nat.ne_of_lt (blk_lt (g := gb364) (o := .cells #[.int .i64 a2_0, .int .i64 a2_1] 23 (0, 0)) (by (with_reducible repeat (first | refine blk_drewN ?_ _ | refine blk_drew ?_ | refine blk_alloc ?_ _)); exact BK364.out)) : gb364 ≠ gb379)); have n7_ := Aside0.mk ((by rw [hg]; exact Nat.ne_of_gt (blk_lt (g := gb364) (o := .cells #[.int .i64 a2_0, .int .i64 a2_1] 23 (0, 0)) (by (with_reducible repeat (first | refine blk_drewN ?_ _ | refine blk_drew ?_ | refine blk_alloc ?_ _)); exact BK364.out)) : gb379 ≠ gb364)); have n8_ := Aside0.mk ((by rw [hg]; exact Nat.ne_of_lt (blk_lt (g := gb371) (o := .cells #[.int .i64 t368, .int .i64 t369] 23 (0, 0)) (by (with_reducible repeat (first | refine blk_drewN ?_ _ | refine blk_drew ?_ | refine blk_alloc ?_ _)); exact BK371.out)) : gb371 ≠ gb379)); have n9_ := Aside0.mk ((by rw [hg]; exact Nat.ne_of_gt (blk_lt (g := gb371) (o := .cells #[.int .i64 t368, .int .i64 t369] 23 (0, 0)) (by (with_reducible repeat (first | refine blk_drewN ?_ _ | refine blk_drew ?_ | refine blk_alloc ?_ _)); exact BK371.out)) : gb379 ≠ gb371)); clear BK364; clear BK371; clear HB; have BK364 := n0_; have BK371 := n1_; have HB := n2_; have BK379 := n3_; have GW379 := n4_; have GE379 := n5_; have NB364_379 := n6_; have NB379_364 := n7_; have NB371_379 := n8_; have NB379_371 := n9_; clear n0_ n1_ n2_ n3_ n4_ n5_ n6_ n7_ n8_ n9_; clear hb hbox hg; have hnb44 := NB379_364.out; have hnc44 := NB364_379.out; have hnb45 := NB379_371.out; have hnc45 := NB371_379.out; have hcz46_0 : w43.cell? ⟨gb379, 0, none⟩ = some (.int .i64 0) := (blk_cell BK379.out 0).trans rfl; have hcz46_1 : w43.cell? ⟨gb379, 1, none⟩ = some (.int .i64 0) := (blk_cell BK379.out 1).trans rfl; have hfz46_0 := blk_frozen BK379.out 0; have hfz46_1 := blk_frozen BK379.out 1; have hnb47 := NB364_371.out; have hnc47 := NB371_364.out; have hcz48_0 : w43.cell? ⟨gb364, 0, none⟩ = some (.int .i64 a2_0) := (blk_cell BK364.out 0).trans rfl; have hcz48_1 : w43.cell? ⟨gb364, 1, none⟩ = some (.int .i64 a2_1) := (blk_cell BK364.out 1).trans rfl; have hfz48_0 := blk_frozen BK364.out 0; have hfz48_1 := blk_frozen BK364.out 1) | ((with_reducible refine gate_callee (f := 21) rfl ?_); refine goesL_ (some 83) rfl rfl Try.func21 (by kernel_rfl) rfl #[.slice A0 l0.length c0, .agg #[.int .i64 a2_0, .int .i64 a2_1]] rfl (by (try simp only [List.map_toArray, List.map_cons, List.map_nil]); first | done | rfl | (simp only [List.length_drop, List.length_take]; rfl)) ?_; (with_reducible refine (priority_Active.calls _ _ l0 a2_0 a2_1 t380 t381 t382 _ ?side1 ?side2 A37.out).mono ?_); (case side1 => exact Kd.C_below HR0.out (by repeat (first | (with_reducible first | exact HB.out | apply below_alloc | apply pw_below_drewN | apply below_drew1 | refine below_set ?_ GE364.out | refine below_set ?_ GE371.out | refine below_set ?_ GE379.out) | exact HB.out))); (case side2 => exact HC0.out); rintro e w49 ⟨rfl, hb⟩; refine ⟨_, rfl, ?_⟩; have n0_ := Aside0.mk (blk_below (g := gb364) (o := .cells #[.int .i64 a2_0, .int .i64 a2_1] 23 (0, 0)) (by (with_reducible repeat (first | refine blk_drewN ?_ _ | refine blk_drew ?_ | refine blk_alloc ?_ _)); refine blk_far ?_ NB364_379.out _; (with_reducible repeat (first | refine blk_drewN ?_ _ | refine blk_drew ?_ | refine blk_alloc ?_ _)); refine blk_far ?_ NB364_379.out _; (with_reducible repeat (first | refine blk_drewN ?_ _ | refine blk_drew ?_ | refine blk_alloc ?_ _)); exact BK364.out) hb); have n1_ := Aside0.mk (blk_below (g := gb371) (o := .cells #[.int .i64 t368, .int .i64 t369] 23 (0, 0)) (by (with_reducible repeat (first | refine blk_drewN ?_ _ | refine blk_drew ?_ | refine blk_alloc ?_ _)); refine blk_far ?_ NB371_379.out _; (with_reducible repeat (first | refine blk_drewN ?_ _ | refine blk_drew ?_ | refine blk_alloc ?_ _)); refine blk_far ?_ NB371_379.out _; (with_reducible repeat (first | refine blk_drewN ?_ _ | refine blk_drew ?_ | refine blk_alloc ?_ _)); exact BK371.out) hb); have n2_ := Aside0.mk (blk_below (g := gb379) (o := .cells #[.int .i64 t376, .int .i64 t377] 23 (0, 0)) (by (with_reducible repeat (first | refine blk_drewN ?_ _ | refine blk_drew ?_ | refine blk_alloc ?_ _)); refine blk_put (cs := #[.int .i64 t376, .int .i64 0]) ?_ 1 _ rfl; (with_reducible repeat (first | refine blk_drewN ?_ _ | refine blk_drew ?_ | refine blk_alloc ?_ _)); refine blk_put (cs := #[.int .i64 0, .int .i64 0]) ?_ 0 _ rfl; (with_reducible repeat (first | refine blk_drewN ?_ _ | refine blk_drew ?_ | refine blk_alloc ?_ _)); exact BK379.out) hb); have n3_ := Aside0.mk (below_step (by repeat (first | (with_reducible first | exact HB.out | apply below_alloc | apply pw_below_drewN | apply below_drew1 | refine below_set ?_ GE364.out | refine below_set ?_ GE371.out | refine below_set ?_ GE379.out) | exact HB.out)) hb); clear BK364; clear BK371; clear BK379; clear HB; have BK364 := n0_; have BK371 := n1_; have BK379 := n2_; have HB := n3_; clear n0_ n1_ n2_ n3_; (try clear hb); (try clear hb2); (try clear hk); (try clear hi)) | ((with_reducible refine gate_dst (N := 16) rfl ?_); refine box_event ?hg (N := 16) ?hd (cs := #[.int .i64 0, .int .i64 0]) (t := 23) ?hr ?_; (case hd => rfl); (case hg => rfl); (case hr => first | (go_simp; done) | (go_simp; rfl)); intro gb383 hg w50 hbox hb; have n0_ := Aside0.mk (blk_below (g := gb364) (o := .cells #[.int .i64 a2_0, .int .i64 a2_1] 23 (0, 0)) (by (with_reducible repeat (first | refine blk_drewN ?_ _ | refine blk_drew ?_ | refine blk_alloc ?_ _)); exact BK364.out) hb); have n1_ := Aside0.mk (blk_below (g := gb371) (o := .cells #[.int .i64 t368, .int .i64 t369] 23 (0, 0)) (by (with_reducible repeat (first | refine blk_drewN ?_ _ | refine blk_drew ?_ | refine blk_alloc ?_ _)); exact BK371.out) hb); have n2_ := Aside0.mk (blk_below (g := gb379) (o := .cells #[.int .i64 t376, .int .i64 t377] 23 (0, 0)) (by (with_reducible repeat (first | refine blk_drewN ?_ _ | refine blk_drew ?_ | refine blk_alloc ?_ _)); exact BK379.out) hb); have n3_ := Aside0.mk (below_step (by repeat (first | (with_reducible first | exact HB.out | apply below_alloc | apply pw_below_drewN | apply below_drew1 | refine below_set ?_ GE364.out | refine below_set ?_ GE371.out | refine below_set ?_ GE379.out) | exact HB.out)) hb); have n4_ := Aside0.mk (hbox); have n5_ := Aside0.mk ((by rw [hg]; exact (below_size (by repeat (first | (with_reducible first | exact HB.out | apply below_alloc | apply pw_below_drewN | apply below_drew1 | refine below_set ?_ GE364.out | refine below_set ?_ GE371.out | refine below_set ?_ GE379.out) | exact HB.out))) : w.heap.size ≤ gb383)); have n6_ := Aside0.mk ((by rw [hg]; exact (below_size (by repeat (first | (with_reducible first | exact HB.out | apply below_alloc | apply pw_below_drewN | apply below_drew1 | refine below_set ?_ GE364.out | refine below_set ?_ GE371.out | refine below_set ?_ GE379.out) | exact HB.out))) : w.heap.size ≤ gb383)); have n7_ := Aside0.mk ((by rw [hg]; exact Nat.ne_of_lt (blk_lt (g := gb364) (o := .cells #[.int .i64 a2_0, .int .i64 a2_1] 23 (0, 0)) (by (with_reducible repeat (first | refine blk_drewN ?_ _ | refine blk_drew ?_ | refine blk_alloc ?_ _)); exact BK364.out)) : gb364 ≠ gb383)); have n8_ := Aside0.mk ((by rw [hg]; exact Nat.ne_of_gt (blk_lt (g := gb364) (o := .cells #[.int .i64 a2_0, .int .i64 a2_1] 23 (0, 0)) (by (with_reducible repeat (first | refine blk_drewN ?_ _ | refine blk_drew ?_ | refine blk_alloc ?_ _)); exact BK364.out)) : gb383 ≠ gb364)); have n9_ := Aside0.mk ((by rw [hg]; exact Nat.ne_of_lt (blk_lt (g := gb371) (o := .cells #[.int .i64 t368, .int .i64 t369] 23 (0, 0)) (by (with_reducible repeat (first | refine blk_drewN ?_ _ | refine blk_drew ?_ | refine blk_alloc ?_ _)); exact BK371.out)) : gb371 ≠ gb383)); have n10_ := Aside0.mk ((by rw [hg]; exact Nat.ne_of_gt (blk_lt (g := gb371) (o := .cells #[.int .i64 t368, .int .i64 t369] 23 (0, 0)) (by (with_reducible repeat (first | refine blk_drewN ?_ _ | refine blk_drew ?_ | refine blk_alloc ?_ _)); exact BK371.out)) : gb383 ≠ gb371)); have n11_ := Aside0.mk ((by rw [hg]; exact Nat.ne_of_lt (blk_lt (g := gb379) (o := .cells #[.int .i64 t376, .int .i64 t377] 23 (0, 0)) (by (with_reducible repeat (first | refine blk_drewN ?_ _ | refine blk_drew ?_ | refine blk_alloc ?_ _)); exact BK379.out)) : gb379 ≠ gb383)); have n12_ := Aside0.mk ((by rw [hg]; exact Nat.ne_of_gt (blk_lt (g := gb379) (o := .cells #[.int .i64 t376, .int .i64 t377] 23 (0, 0)) (by (with_reducible repeat (first | refine blk_drewN ?_ _ | refine blk_drew ?_ | refine blk_alloc ?_ _)); exact BK379.out)) : gb383 ≠ gb379)); clear BK364; clear BK371; clear BK379; clear HB; have BK364 := n0_; have BK371 := n1_; have BK379 := n2_; have HB := n3_; have BK383 := n4_; have GW383 := n5_; have GE383 := n6_; have NB364_383 := n7_; have NB383_364 := n8_; have NB371_383 := n9_; have NB383_371 := n10_; have NB379_383 := n11_; have NB383_379 := n12_; clear n0_ n1_ n2_ n3_ n4_ n5_ n6_ n7_ n8_ n9_ n10_ n11_ n12_; clear hb hbox hg; have hnb51 := NB383_364.out; have hnc51 := NB364_383.out; have hnb52 := NB383_371.out; have hnc52 := NB371_383.out; have hnb53 := NB383_379.out; have hnc53 := NB379_383.out; have hcz54_0 : w50.cell? ⟨gb383, 0, none⟩ = some (.int .i64 0) := (blk_cell BK383.out 0).trans rfl; have hcz54_1 : w50.cell? ⟨gb383, 1, none⟩ = some (.int .i64 0) := (blk_cell BK383.out 1).trans rfl; have hfz54_0 := blk_frozen BK383.out 0; have hfz54_1 := blk_frozen BK383.out 1; have hcz55_0 : w50.cell? ⟨gb379, 0, none⟩ = some (.int .i64 t376) := (blk_cell BK379.out 0).trans rfl; have hcz55_1 : w50.cell? ⟨gb379, 1, none⟩ = some (.int .i64 t377) := (blk_cell BK379.out 1).trans rfl; have hfz55_0 := blk_frozen BK379.out 0; have hfz55_1 := blk_frozen BK379.out 1; have hcz56_0 : w50.cell? ⟨gb371, 0, none⟩ = some (.int .i64 t368) := (blk_cell BK371.out 0).trans rfl; have hcz56_1 : w50.cell? ⟨gb371, 1, none⟩ = some (.int .i64 t369) := (blk_cell BK371.out 1).trans rfl; have hfz56_0 := blk_frozen BK371.out 0; have hfz56_1 := blk_frozen BK371.out 1))
                                go_ret
                                exact ⟨by first | rfl | (simp [errW_none, errW_some] <;> rfl) | (simp [*, errW_none, errW_some] <;> rfl), by repeat (first | (with_reducible first | exact HB.out | apply below_alloc | apply pw_below_drewN | apply below_drew1 | refine below_set ?_ GE364.out | refine below_set ?_ GE371.out | refine below_set ?_ GE379.out | refine below_set ?_ GE383.out) | exact HB.out)⟩
                              · rw [if_neg c41] at H
                                have c41b0 : decide (0 < a1) = false := decide_eq_false c41
                                clear c41
                                by_cases c57 : t380 = t367
                                · rw [if_pos c57] at H
                                  have c57b0 : (t380 == t367) = true := beq_iff_eq.mpr c57
                                  have c57b1 : (t380 != t367) = false := bne_eq_false_iff_eq.mpr c57
                                  clear c57
                                  obtain rfl := Option.some.inj H
                                  go_wp2_with (first | ((with_reducible refine gate_callee (f := 23) rfl ?_); refine goesL_ (some 77) rfl rfl Try.func23 (by kernel_rfl) rfl #[.slice A0 l0.length c0, .int .i64 t367] rfl (by (try simp only [List.map_toArray, List.map_cons, List.map_nil]); first | done | rfl | (simp only [List.length_drop, List.length_take]; rfl)) ?_; (with_reducible refine (priority_Slot.calls _ _ l0 t367 t376 t377 t378 _ ?side1 ?side2 A36.out).mono ?_); (case side1 => repeat (first | exact (Kd.C_below HR0.out HB.out) | (with_reducible refine Kd.C_alloc ?_ _) | (with_reducible refine Kd.C_drewN ?_ _) | (with_reducible refine Kd.C_drew ?_))); (case side2 => exact HC0.out); rintro e w58 ⟨rfl, hb⟩; refine ⟨_, rfl, ?_⟩; have n0_ := Aside0.mk (blk_below (g := gb364) (o := .cells #[.int .i64 a2_0, .int .i64 a2_1] 23 (0, 0)) (by (with_reducible repeat (first | refine blk_drewN ?_ _ | refine blk_drew ?_ | refine blk_alloc ?_ _)); exact BK364.out) hb); have n1_ := Aside0.mk (blk_below (g := gb371) (o := .cells #[.int .i64 t368, .int .i64 t369] 23 (0, 0)) (by (with_reducible repeat (first | refine blk_drewN ?_ _ | refine blk_drew ?_ | refine blk_alloc ?_ _)); exact BK371.out) hb); have n2_ := Aside0.mk (below_step (by repeat (first | (with_reducible first | exact HB.out | apply below_alloc | apply pw_below_drewN | apply below_drew1 | refine below_set ?_ GE364.out | refine below_set ?_ GE371.out) | exact HB.out)) hb); clear BK364; clear BK371; clear HB; have BK364 := n0_; have BK371 := n1_; have HB := n2_; clear n0_ n1_ n2_; (try clear hb); (try clear hb2); (try clear hk); (try clear hi)) | ((with_reducible refine gate_dst (N := 13) rfl ?_); refine box_event ?hg (N := 13) ?hd (cs := #[.int .i64 0, .int .i64 0]) (t := 23) ?hr ?_; (case hd => rfl); (case hg => rfl); (case hr => first | (go_simp; done) | (go_simp; rfl)); intro gb379 hg w59 hbox hb; have n0_ := Aside0.mk (blk_below (g := gb364) (o := .cells #[.int .i64 a2_0, .int .i64 a2_1] 23 (0, 0)) (by (with_reducible repeat (first | refine blk_drewN ?_ _ | refine blk_drew ?_ | refine blk_alloc ?_ _)); exact BK364.out) hb); have n1_ := Aside0.mk (blk_below (g := gb371) (o := .cells #[.int .i64 t368, .int .i64 t369] 23 (0, 0)) (by (with_reducible repeat (first | refine blk_drewN ?_ _ | refine blk_drew ?_ | refine blk_alloc ?_ _)); exact BK371.out) hb); have n2_ := Aside0.mk (below_step (by repeat (first | (with_reducible first | exact HB.out | apply below_alloc | apply pw_below_drewN | apply below_drew1 | refine below_set ?_ GE364.out | refine below_set ?_ GE371.out) | exact HB.out)) hb); have n3_ := Aside0.mk (hbox); have n4_ := Aside0.mk ((by rw [hg]; exact (below_size (by repeat (first | (with_reducible first | exact HB.out | apply below_alloc | apply pw_below_drewN | apply below_drew1 | refine below_set ?_ GE364.out | refine below_set ?_ GE371.out) | exact HB.out))) : w.heap.size ≤ gb379)); have n5_ := Aside0.mk ((by rw [hg]; exact (below_size (by repeat (first | (with_reducible first | exact HB.out | apply below_alloc | apply pw_below_drewN | apply below_drew1 | refine below_set ?_ GE364.out | refine below_set ?_ GE371.out) | exact HB.out))) : w.heap.size ≤ gb379)); have n6_ := Aside0.mk ((by rw [hg]; exact Nat.ne_of_lt (blk_lt (g := gb364) (o := .cells #[.int .i64 a2_0, .int .i64 a2_1] 23 (0, 0)) (by (with_reducible repeat (first | refine blk_drewN ?_ _ | refine blk_drew ?_ | refine blk_alloc ?_ _)); exact BK364.out)) : gb364 ≠ gb379)); have n7_ := Aside0.mk ((by rw [hg]; exact Nat.ne_of_gt (blk_lt (g := gb364) (o := .cells #[.int .i64 a2_0, .int .i64 a2_1] 23 (0, 0)) (by (with_reducible repeat (first | refine blk_drewN ?_ _ | refine blk_drew ?_ | refine blk_alloc ?_ _)); exact BK364.out)) : gb379 ≠ gb364)); have n8_ := Aside0.mk ((by rw [hg]; exact Nat.ne_of_lt (blk_lt (g := gb371) (o := .cells #[.int .i64 t368, .int .i64 t369] 23 (0, 0)) (by (with_reducible repeat (first | refine blk_drewN ?_ _ | refine blk_drew ?_ | refine blk_alloc ?_ _)); exact BK371.out)) : gb371 ≠ gb379)); have n9_ := Aside0.mk ((by rw [hg]; exact Nat.ne_of_gt (blk_lt (g := gb371) (o := .cells #[.int .i64 t368, .int .i64 t369] 23 (0, 0)) (by (with_reducible repeat (first | refine blk_drewN ?_ _ | refine blk_drew ?_ | refine blk_alloc ?_ _)); exact BK371.out)) : gb379 ≠ gb371)); clear BK364; clear BK371; clear HB; have BK364 := n0_; have BK371 := n1_; have HB := n2_; have BK379 := n3_; have GW379 := n4_; have GE379 := n5_; have NB364_379 := n6_; have NB379_364 := n7_; have NB371_379 := n8_; have NB379_371 := n9_; clear n0_ n1_ n2_ n3_ n4_ n5_ n6_ n7_ n8_ n9_; clear hb hbox hg; have hnb60 := NB379_364.out; have hnc60 := NB364_379.out; have hnb61 := NB379_371.out; have hnc61 := NB371_379.out; have hcz62_0 : w59.cell? ⟨gb379, 0, none⟩ = some (.int .i64 0) := (blk_cell BK379.out 0).trans rfl; have hcz62_1 : w59.cell? ⟨gb379, 1, none⟩ = some (.int .i64 0) := (blk_cell BK379.out 1).trans rfl; have hfz62_0 := blk_frozen BK379.out 0; have hfz62_1 := blk_frozen BK379.out 1; have hnb63 := NB364_371.out; have hnc63 := NB371_364.out; have hcz64_0 : w59.cell? ⟨gb364, 0, none⟩ = some (.int .i64 a2_0) := (blk_cell BK364.out 0).trans rfl; have hcz64_1 : w59.cell? ⟨gb364, 1, none⟩ = some (.int .i64 a2_1) := (blk_cell BK364.out 1).trans rfl; have hfz64_0 := blk_frozen BK364.out 0; have hfz64_1 := blk_frozen BK364.out 1) | ((with_reducible refine gate_callee (f := 21) rfl ?_); refine goesL_ (some 83) rfl rfl Try.func21 (by kernel_rfl) rfl #[.slice A0 l0.length c0, .agg #[.int .i64 a2_0, .int .i64 a2_1]] rfl (by (try simp only [List.map_toArray, List.map_cons, List.map_nil]); first | done | rfl | (simp only [List.length_drop, List.length_take]; rfl)) ?_; (with_reducible refine (priority_Active.calls _ _ l0 a2_0 a2_1 t380 t381 t382 _ ?side1 ?side2 A37.out).mono ?_); (case side1 => exact Kd.C_below HR0.out (by repeat (first | (with_reducible first | exact HB.out | apply below_alloc | apply pw_below_drewN | apply below_drew1 | refine below_set ?_ GE364.out | refine below_set ?_ GE371.out | refine below_set ?_ GE379.out) | exact HB.out))); (case side2 => exact HC0.out); rintro e w65 ⟨rfl, hb⟩; refine ⟨_, rfl, ?_⟩; have n0_ := Aside0.mk (blk_below (g := gb364) (o := .cells #[.int .i64 a2_0, .int .i64 a2_1] 23 (0, 0)) (by (with_reducible repeat (first | refine blk_drewN ?_ _ | refine blk_drew ?_ | refine blk_alloc ?_ _)); refine blk_far ?_ NB364_379.out _; (with_reducible repeat (first | refine blk_drewN ?_ _ | refine blk_drew ?_ | refine blk_alloc ?_ _)); refine blk_far ?_ NB364_379.out _; (with_reducible repeat (first | refine blk_drewN ?_ _ | refine blk_drew ?_ | refine blk_alloc ?_ _)); exact BK364.out) hb); have n1_ := Aside0.mk (blk_below (g := gb371) (o := .cells #[.int .i64 t368, .int .i64 t369] 23 (0, 0)) (by (with_reducible repeat (first | refine blk_drewN ?_ _ | refine blk_drew ?_ | refine blk_alloc ?_ _)); refine blk_far ?_ NB371_379.out _; (with_reducible repeat (first | refine blk_drewN ?_ _ | refine blk_drew ?_ | refine blk_alloc ?_ _)); refine blk_far ?_ NB371_379.out _; (with_reducible repeat (first | refine blk_drewN ?_ _ | refine blk_drew ?_ | refine blk_alloc ?_ _)); exact BK371.out) hb); have n2_ := Aside0.mk (blk_below (g := gb379) (o := .cells #[.int .i64 t376, .int .i64 t377] 23 (0, 0)) (by (with_reducible repeat (first | refine blk_drewN ?_ _ | refine blk_drew ?_ | refine blk_alloc ?_ _)); refine blk_put (cs := #[.int .i64 t376, .int .i64 0]) ?_ 1 _ rfl; (with_reducible repeat (first | refine blk_drewN ?_ _ | refine blk_drew ?_ | refine blk_alloc ?_ _)); refine blk_put (cs := #[.int .i64 0, .int .i64 0]) ?_ 0 _ rfl; (with_reducible repeat (first | refine blk_drewN ?_ _ | refine blk_drew ?_ | refine blk_alloc ?_ _)); exact BK379.out) hb); have n3_ := Aside0.mk (below_step (by repeat (first | (with_reducible first | exact HB.out | apply below_alloc | apply pw_below_drewN | apply below_drew1 | refine below_set ?_ GE364.out | refine below_set ?_ GE371.out | refine below_set ?_ GE379.out) | exact HB.out)) hb); clear BK364; clear BK371; clear BK379; clear HB; have BK364 := n0_; have BK371 := n1_; have BK379 := n2_; have HB := n3_; clear n0_ n1_ n2_ n3_; (try clear hb); (try clear hb2); (try clear hk); (try clear hi)) | ((with_reducible refine gate_dst (N := 16) rfl ?_); refine box_event ?hg (N := 16) ?hd (cs := #[.int .i64 0, .int .i64 0]) (t := 23) ?hr ?_; (case hd => rfl); (case hg => rfl); (case hr => first | (go_simp; done) | (go_simp; rfl)); intro gb383 hg w66 hbox hb; have n0_ := Aside0.mk (blk_below (g := gb364) (o := .cells #[.int .i64 a2_0, .int .i64 a2_1] 23 (0, 0)) (by (with_reducible repeat (first | refine blk_drewN ?_ _ | refine blk_drew ?_ | refine blk_alloc ?_ _)); exact BK364.out) hb); have n1_ := Aside0.mk (blk_below (g := gb371) (o := .cells #[.int .i64 t368, .int .i64 t369] 23 (0, 0)) (by (with_reducible repeat (first | refine blk_drewN ?_ _ | refine blk_drew ?_ | refine blk_alloc ?_ _)); exact BK371.out) hb); have n2_ := Aside0.mk (blk_below (g := gb379) (o := .cells #[.int .i64 t376, .int .i64 t377] 23 (0, 0)) (by (with_reducible repeat (first | refine blk_drewN ?_ _ | refine blk_drew ?_ | refine blk_alloc ?_ _)); exact BK379.out) hb); have n3_ := Aside0.mk (below_step (by repeat (first | (with_reducible first | exact HB.out | apply below_alloc | apply pw_below_drewN | apply below_drew1 | refine below_set ?_ GE364.out | refine below_set ?_ GE371.out | refine below_set ?_ GE379.out) | exact HB.out)) hb); have n4_ := Aside0.mk (hbox); have n5_ := Aside0.mk ((by rw [hg]; exact (below_size (by repeat (first | (with_reducible first | exact HB.out | apply below_alloc | apply pw_below_drewN | apply below_drew1 | refine below_set ?_ GE364.out | refine below_set ?_ GE371.out | refine below_set ?_ GE379.out) | exact HB.out))) : w.heap.size ≤ gb383)); have n6_ := Aside0.mk ((by rw [hg]; exact (below_size (by repeat (first | (with_reducible first | exact HB.out | apply below_alloc | apply pw_below_drewN | apply below_drew1 | refine below_set ?_ GE364.out | refine below_set ?_ GE371.out | refine below_set ?_ GE379.out) | exact HB.out))) : w.heap.size ≤ gb383)); have n7_ := Aside0.mk ((by rw [hg]; exact Nat.ne_of_lt (blk_lt (g := gb364) (o := .cells #[.int .i64 a2_0, .int .i64 a2_1] 23 (0, 0)) (by (with_reducible repeat (first | refine blk_drewN ?_ _ | refine blk_drew ?_ | refine blk_alloc ?_ _)); exact BK364.out)) : gb364 ≠ gb383)); have n8_ := Aside0.mk ((by rw [hg]; exact Nat.ne_of_gt (blk_lt (g := gb364) (o := .cells #[.int .i64 a2_0, .int .i64 a2_1] 23 (0, 0)) (by (with_reducible repeat (first | refine blk_drewN ?_ _ | refine blk_drew ?_ | refine blk_alloc ?_ _)); exact BK364.out)) : gb383 ≠ gb364)); have n9_ := Aside0.mk ((by rw [hg]; exact Nat.ne_of_lt (blk_lt (g := gb371) (o := .cells #[.int .i64 t368, .int .i64 t369] 23 (0, 0)) (by (with_reducible repeat (first | refine blk_drewN ?_ _ | refine blk_drew ?_ | refine blk_alloc ?_ _)); exact BK371.out)) : gb371 ≠ gb383)); have n10_ := Aside0.mk ((by rw [hg]; exact Nat.ne_of_gt (blk_lt (g := gb371) (o := .cells #[.int .i64 t368, .int .i64 t369] 23 (0, 0)) (by (with_reducible repeat (first | refine blk_drewN ?_ _ | refine blk_drew ?_ | refine blk_alloc ?_ _)); exact BK371.out)) : gb383 ≠ gb371)); have n11_ := Aside0.mk ((by rw [hg]; exact Nat.ne_of_lt (blk_lt (g := gb379) (o := .cells #[.int .i64 t376, .int .i64 t377] 23 (0, 0)) (by (with_reducible repeat (first | refine blk_drewN ?_ _ | refine blk_drew ?_ | refine blk_alloc ?_ _)); exact BK379.out)) : gb379 ≠ gb383)); have n12_ := Aside0.mk ((by rw [hg]; exact Nat.ne_of_gt (blk_lt (g := gb379) (o := .cells #[.int .i64 t376, .int .i64 t377] 23 (0, 0)) (by (with_reducible repeat (first | refine blk_drewN ?_ _ | refine blk_drew ?_ | refine blk_alloc ?_ _)); exact BK379.out)) : gb383 ≠ gb379)); clear BK364; clear BK371; clear BK379; clear HB; have BK364 := n0_; have BK371 := n1_; have BK379 := n2_; have HB := n3_; have BK383 := n4_; have GW383 := n5_; have GE383 := n6_; have NB364_383 := n7_; have NB383_364 := n8_; have NB371_383 := n9_; have NB383_371 := n10_; have NB379_383 := n11_; have NB383_379 := n12_; clear n0_ n1_ n2_ n3_ n4_ n5_ n6_ n7_ n8_ n9_ n10_ n11_ n12_; clear hb hbox hg; have hnb67 := NB383_364.out; have hnc67 := NB364_383.out; have hnb68 := NB383_371.out; have hnc68 := NB371_383.out; have hnb69 := NB383_379.out; have hnc69 := NB379_383.out; have hcz70_0 : w66.cell? ⟨gb383, 0, none⟩ = some (.int .i64 0) := (blk_cell BK383.out 0).trans rfl; have hcz70_1 : w66.cell? ⟨gb383, 1, none⟩ = some (.int .i64 0) := (blk_cell BK383.out 1).trans rfl; have hfz70_0 := blk_frozen BK383.out 0; have hfz70_1 := blk_frozen BK383.out 1; have hcz71_0 : w66.cell? ⟨gb379, 0, none⟩ = some (.int .i64 t376) := (blk_cell BK379.out 0).trans rfl; have hcz71_1 : w66.cell? ⟨gb379, 1, none⟩ = some (.int .i64 t377) := (blk_cell BK379.out 1).trans rfl; have hfz71_0 := blk_frozen BK379.out 0; have hfz71_1 := blk_frozen BK379.out 1; have hcz72_0 : w66.cell? ⟨gb371, 0, none⟩ = some (.int .i64 t368) := (blk_cell BK371.out 0).trans rfl; have hcz72_1 : w66.cell? ⟨gb371, 1, none⟩ = some (.int .i64 t369) := (blk_cell BK371.out 1).trans rfl; have hfz72_0 := blk_frozen BK371.out 0; have hfz72_1 := blk_frozen BK371.out 1))
                                  go_ret
                                  exact ⟨by first | rfl | (simp [errW_none, errW_some] <;> rfl) | (simp [*, errW_none, errW_some] <;> rfl), by repeat (first | (with_reducible first | exact HB.out | apply below_alloc | apply pw_below_drewN | apply below_drew1 | refine below_set ?_ GE364.out | refine below_set ?_ GE371.out | refine below_set ?_ GE379.out | refine below_set ?_ GE383.out) | exact HB.out)⟩
                                · rw [if_neg c57] at H
                                  exact absurd H (by simp)
                          · rw [if_neg c39] at H
                            exact absurd H (by simp)
                        · rw [if_neg c38] at H
                          exact absurd H (by simp)
  · replace c5 := Bool.eq_false_iff.mpr c5
    subst c5
    have H1 : (none) = some r := by rw [if_neg (show ¬ (false = true) by decide)] at H; exact H
    clear H
    have H := H1
    clear H1
    exact absurd H (by simp)
end Go.Proofs.Ytejidnmgjccidaa.R
end
section
namespace Go.Proofs.Ytejidnmgjccidaa.Opn
open Go.RowKit Go.Proofs.YtejidnmgjccidaaW.PrintWords
def Opn (P : Program) (t : TypeId) {α : Type} (d : Kd α) (V : α → Prop) : Prop :=
  ∀ (H : Type) (enc : TypeId × Value → H) (w : World) (fuel : Nat) (cs : List Value) (x : DataW H × List MemPlace),
    DataW.trod enc P w 0 (fun _ => true) true fuel t cs = some x → (∀ n ∈ DataW.weights P t x.1, n ≤ 140737488351232) → ∃ y, d.K w y cs ∧ V y
theorem opn_int {P : Program} {t : TypeId} {k : IntKind} (ht : P.underlying t = some (.int k)) : Opn P t (Kd.int k) (fun y => (Lit.int k y).wf = true) := by
  intro H enc w fuel cs x h _
  obtain ⟨n, rfl, _, hw⟩ := DataW.trod_int ht h
  exact ⟨n, rfl, hw⟩
theorem weights_all {H : Type} {P : Program} {e : TypeId} {d : DataW H} {n : Nat} (hn : n ∈ DataW.weights P e d) : ∀ {l : List (DataW H)}, d ∈ l → n ∈ DataW.weightsAll P e l
  | [], h => by simp at h
  | a :: r, h => by
    simp only [DataW.weightsAll, List.mem_append]
    rcases List.mem_cons.1 h with rfl | h
    · exact .inl hn
    · exact .inr (weights_all hn h)
theorem list_of {α : Type} (Q : Nat → α → Prop) : ∀ n, (∀ i, i < n → ∃ y, Q i y) → ∃ l : List α, l.length = n ∧ ∀ i y, l[i]? = some y → Q i y
  | 0, _ => ⟨[], rfl, fun i y h => by simp at h⟩
  | n + 1, h => by
    obtain ⟨l, hl, hq⟩ := list_of Q n (fun i hi => h i (by omega))
    obtain ⟨y, hy⟩ := h n (by omega)
    refine ⟨l ++ [y], by simp [hl], fun i z hz => ?_⟩
    rcases Nat.lt_or_ge i n with hi | hi
    · rw [List.getElem?_append_left (by omega)] at hz
      exact hq i z hz
    · have : i = n := by
        have := (List.getElem?_eq_some_iff.1 hz).1
        simp [hl] at this
        omega
      subst this
      rw [List.getElem?_append_right (by omega), hl, Nat.sub_self] at hz
      simp at hz
      subst hz
      exact hy
theorem opn_slice {P : Program} {t e : TypeId} {α : Type} {d : Kd α} {V : α → Prop} {B : Nat} (ht : P.underlying t = some (.slice e)) (hs : P.cellsOf e = d.sz) (hB : P.bytesOf e = B) (he : Opn P e d V) :
    Opn P t (Kd.slice e d) (fun xs => xs.length * B ≤ 140737488351232 ∧ ∀ x ∈ xs, V x) := by
  intro H enc w fuel cs x h hw
  rcases Go.Deep.open_slice ht h with ⟨rfl, rfl⟩ | ⟨a, len, cap, m, n, D, Pl, rfl, _, hl, hm, hmm, rfl, hi⟩
  · exact ⟨[], ⟨none, 0, rfl, by simp, rfl, by simp, fun hn => absurd hn (by simp)⟩, by simp, by simp⟩
  have hmm' : m = cap := by simpa using hmm
  subst hmm'
  have hw' : (len + (m - len)) * B ≤ 140737488351232 := by
    have := hw ((len + (m - len)) * B) (by simp [DataW.weights, ht, hB])
    exact this
  obtain ⟨l, hlen, hq⟩ := list_of (fun i y => ∃ c, w.cells? 0 (a.add (i * P.cellsOf e)) (P.cellsOf e) = some c ∧ d.K w y c ∧ V y) len (fun i hil => by
    obtain ⟨c, hc, htr⟩ := hi i (by omega)
    obtain ⟨y, hy, hV⟩ := he H enc w n c _ htr (fun k hk => hw k (by
      simp only [DataW.weights, ht, List.mem_cons, List.mem_append]
      exact .inr (.inl (weights_all hk (List.mem_map.2 ⟨i, List.mem_range.2 hil, rfl⟩)))))
    exact ⟨y, c, hc, hy, hV⟩)
  refine ⟨l, ⟨some a, m, by rw [hlen], by omega, ?_⟩, ?_, ?_⟩
  · refine ⟨rfl, by simp only [maxLen] at hm; omega, fun _ => ⟨a, rfl, fun j p hj => ?_⟩⟩
    obtain ⟨c, hc, hK, _⟩ := hq j p hj
    obtain ⟨_, hcl, hat⟩ := World.cells?_some hc
    refine ⟨c, by rw [hcl, hs], hK, fun i u hu => ?_⟩
    have hil : i < P.cellsOf e := by
      have := (List.getElem?_eq_some_iff.1 hu).1
      omega
    rw [← hs, ← Go.Deep.add_add, hat i hil, hu]
  · rw [hlen]
    exact Nat.le_trans (Nat.mul_le_mul_right _ (by omega)) hw'
  · intro y hy
    obtain ⟨i, hi2⟩ := List.mem_iff_getElem?.1 hy
    exact (hq i y hi2).elim fun c h => h.2.2
def OpnF (P : Program) (fs : List Field) {α : Type} (d : Kd α) (V : α → Prop) (o : Nat) : Prop :=
  ∀ (H : Type) (enc : TypeId × Value → H) (w : World) (n : Nat) (cs : List Value) (xs : List (DataW H × List MemPlace)),
    o + d.sz ≤ cs.length →
    (∀ (i : Nat) (f : Field), fs[i]? = some f → ∃ x, xs[i]? = some x ∧ DataW.trod enc P w 0 (fun _ => true) true n f.type ((cs.drop f.offset).take (P.cellsOf f.type)) = some x ∧ ∀ k ∈ DataW.weights P f.type x.1, k ≤ 140737488351232) →
    ∃ y, d.K w y ((cs.drop o).take d.sz) ∧ V y
theorem opn_last {P : Program} {f : Field} {α : Type} {d : Kd α} {V : α → Prop} {o : Nat} (ho : f.offset = o) (hs : P.cellsOf f.type = d.sz) (h : Opn P f.type d V) : OpnF P [f] d V o := by
  intro H enc w n cs xs _ hx
  obtain ⟨x, _, ht, hw⟩ := hx 0 f rfl
  rw [hs, ho] at ht
  exact h H enc w n _ x ht hw
theorem take_two {α : Type} (cs : List α) (o a b : Nat) : (cs.drop o).take (a + b) = (cs.drop o).take a ++ (cs.drop (o + a)).take b := by
  rw [List.take_add, List.drop_drop]
theorem opn_cons {P : Program} {f : Field} {fs : List Field} {α β : Type} {a : Kd α} {b : Kd β} {V : α → Prop} {U : β → Prop} {o : Nat} (ho : f.offset = o) (hs : P.cellsOf f.type = a.sz) (h : Opn P f.type a V) (hr : OpnF P fs b U (o + a.sz)) :
    OpnF P (f :: fs) (Kd.pair a b) (fun y => V y.1 ∧ U y.2) o := by
  intro H enc w n cs xs hl hx
  obtain ⟨x, hx0, ht, hw⟩ := hx 0 f rfl
  rw [hs, ho] at ht
  obtain ⟨y, hy, hV⟩ := h H enc w n _ x ht hw
  have hl' : o + (a.sz + b.sz) ≤ cs.length := hl
  obtain ⟨z, hz, hU⟩ := hr H enc w n cs (xs.drop 1) (by omega) (fun i g hg => by
    obtain ⟨x', h1, h2⟩ := hx (i + 1) g (by simpa using hg)
    exact ⟨x', by rw [List.getElem?_drop, Nat.add_comm]; exact h1, h2⟩)
  exact ⟨(y, z), ⟨_, _, take_two cs o a.sz b.sz, hy, hz⟩, hV, hU⟩
theorem opn_struct {P : Program} {t : TypeId} {fa : Array Field} {fs : List Field} {α β : Type} {d : Kd α} {V : α → Prop} (ht : P.underlying t = some (.struct fa)) (hf : fa.toList = fs) (hs : P.cellsOf t = d.sz) (g : β → α) (g' : α → β) (hg : ∀ y, g (g' y) = y)
    (h : OpnF P fs d V 0) : Opn P t (Kd.iso d g) (fun x => V (g x)) := by
  intro H enc w fuel cs x hx hw
  obtain ⟨xs, n, rfl, rfl, hl, hxl, hfs⟩ := DataW.trod_struct ht hx
  obtain ⟨y, hy, hV⟩ := h H enc w n cs xs (by omega) (fun i f hi => by
    have hi' : fa[i]? = some f := by rw [← hf] at hi; simpa using hi
    have hlt : i < xs.length := by
      rw [hxl]
      exact (Array.getElem?_eq_some_iff.1 hi').1
    have h1 := hfs i f hi'
    refine ⟨xs[i], List.getElem?_eq_getElem hlt, by rw [h1, List.getElem?_eq_getElem hlt], fun k hk => hw k ?_⟩
    simp only [DataW.weights, ht]
    refine DataW.weights_mem_each (j := i) (t := f.type) (d := xs[i].1) ?_ ?_ k hk
    · rw [List.getElem?_map, hf, hi]
      rfl
    · rw [List.getElem?_map, List.getElem?_eq_getElem hlt]
      rfl)
  refine ⟨g' y, ?_, ?_⟩
  · show d.K w (g (g' y)) cs
    rw [hg]
    rw [List.drop_zero, ← hs, ← hl, List.take_length] at hy
    exact hy
  · show V (g (g' y))
    rw [hg]
    exact hV
theorem arg_slice {H : Type} {enc : TypeId × Value → H} {P : Program} {t e : TypeId} {α : Type} {d : Kd α} {V : List α → Prop} {W : World} {v : Value} {x : DataW H} {ps : List MemPlace} (ho : Opn P t (Kd.slice e d) V) (a : Option Addr) (len cap : Nat) (hv : v = .slice a len cap)
    (h : DataW.Trod enc P W 0 (fun _ => true) true t v x ps) (hw : ∀ n ∈ DataW.weights P t x, n ≤ 140737488351232) : ∃ (A : Option Addr) (c : Nat) (l : List α), v = .slice A l.length c ∧ l.length ≤ c ∧ Kd.C d W A l.length l ∧ V l := by
  obtain ⟨fuel, hf⟩ := h
  obtain ⟨l, ⟨A, c, hc, hl, hC⟩, hV⟩ := ho H enc W fuel _ _ hf hw
  subst hv
  have he : Value.slice a len cap = .slice A l.length c := by simpa [Value.cells] using hc
  exact ⟨A, c, l, he, hl, hC, hV⟩
theorem arg_struct {H : Type} {enc : TypeId × Value → H} {P : Program} {t : TypeId} {α : Type} {d : Kd α} {V : α → Prop} {W : World} {v : Value} {x : DataW H} {ps : List MemPlace} (ho : Opn P t d V) (cs : Array Value) (hv : v = .agg cs)
    (h : DataW.Trod enc P W 0 (fun _ => true) true t v x ps) (hw : ∀ n ∈ DataW.weights P t x, n ≤ 140737488351232) : ∃ y, (∃ l, v = .agg l.toArray ∧ d.K W y l) ∧ V y := by
  obtain ⟨fuel, hf⟩ := h
  obtain ⟨y, hK, hV⟩ := ho H enc W fuel _ _ hf hw
  subst hv
  exact ⟨y, ⟨cs.toList, by simp, hK⟩, hV⟩
theorem arg_weights {H : Type} {P : Program} {ts : List TypeId} {ds : List (DataW H)} (h : (DataW.weightsEach P ts ds).all (· ≤ reachBytes) = true) {j : Nat} {t : TypeId} {d : DataW H} (ht : ts[j]? = some t) (hd : ds[j]? = some d) : ∀ n ∈ DataW.weights P t d, n ≤ 140737488351232 := by
  intro n hn
  have := List.all_eq_true.1 h n (DataW.weights_mem_each ht hd n hn)
  exact of_decide_eq_true this
end Go.Proofs.Ytejidnmgjccidaa.Opn
end
section
namespace Go.Proofs.Ytejidnmgjccidaa.R
open Go.RowKit Go.Proofs.YtejidnmgjccidaaW.PrintWords Go.Proofs.Ytejidnmgjccidaa.Opn
def V23 (x : S23) : Prop := ((Lit.int .i64 x.f0).wf = true) ∧ ((Lit.int .i64 x.f1).wf = true)
theorem opn23 : Opn Try.prog 23 k23 V23 := opn_struct Try.underlying23 rfl (by kernel_rfl) (fun x : S23 => (x.f0, x.f1)) (fun y => (⟨y.1, y.2⟩ : S23)) (fun _ => rfl) (opn_cons rfl (by kernel_rfl) (opn_int Try.underlying3) (opn_last rfl (by kernel_rfl) (opn_int Try.underlying2)))
def V25 (x : S25) : Prop := ((Lit.int .i64 x.f0).wf = true) ∧ ((Lit.int .i64 x.f1).wf = true) ∧ (V23 x.f2)
theorem opn25 : Opn Try.prog 25 k25 V25 := opn_struct Try.underlying25 rfl (by kernel_rfl) (fun x : S25 => (x.f0, x.f1, x.f2)) (fun y => (⟨y.1, y.2.1, y.2.2⟩ : S25)) (fun _ => rfl) (opn_cons rfl (by kernel_rfl) (opn_int Try.underlying3) (opn_cons rfl (by kernel_rfl) (opn_int Try.underlying3) (opn_last rfl (by kernel_rfl) opn23)))
end Go.Proofs.Ytejidnmgjccidaa.R
end
section
namespace Go.Proofs.Ytejidnmgjccidaa.R
open Go.RowKit Go.Proofs.YtejidnmgjccidaaW.PrintWords
def plenumlaw13_PriorityHighest.Pure : Prop := ∀ (l0 : List (S25)) (a1 : Int) (x2 : S23), (l0.length * 32 ≤ 140737488351232 ∧ ∀ y ∈ l0, V25 y) → ((Lit.int .i64 a1).wf = true) → (V23 x2) → ∃ k, plenumlaw13_PriorityHighest.f k l0 a1 x2.f0 x2.f1 = some true
end Go.Proofs.Ytejidnmgjccidaa.R
end
section
namespace Go.Proofs.Ytejidnmgjccidaa.R
open Go.RowKit Go.Proofs.YtejidnmgjccidaaW.PrintWords Go.Proofs.YtejidnmgjccidaaW.PrintLast Go.Proofs.YtejidnmgjccidaaW.PrintMore
attribute [local go_sem] max2_int min2_int max_two min_two max_three min_three max_four min_four
set_option linter.unusedVariables false
set_option linter.unusedSimpArgs false
theorem eqA25 (d : Nat) (w : World) (x0 y0 : Int) (x1 y1 : Int) (x2 y2 : Int) (x3 y3 : Int) :
    (Op.equalIn (d + 3) 25 (.agg #[.int .i64 x0, .int .i64 x1, .int .i64 x2, .int .i64 x3]) (.agg #[.int .i64 y0, .int .i64 y1, .int .i64 y2, .int .i64 y3])).run Try.prog w = .ok (x0 == y0 && (x1 == y1 && ((x2 == y2 && (x3 == y3))))) w := by
  refine eqA_of Try.underlying25 (by kernel_rfl) ?_
  refine eqf_cons (by rfl) (by go_simp; rfl) (by go_simp; rfl) (by go_simp) ?_
  refine eqf_cons (by rfl) (by go_simp; rfl) (by go_simp; rfl) (by go_simp) ?_
  exact eqf_last (by rfl) (by go_simp) (by go_simp) (eqA23 (d + 0) w _ _ _ _)
end Go.Proofs.Ytejidnmgjccidaa.R
end
section
namespace Go.Proofs.Ytejidnmgjccidaa.R
open Go.RowKit Go.Proofs.YtejidnmgjccidaaW.PrintWords Go.Proofs.YtejidnmgjccidaaW.PrintLast Go.Proofs.YtejidnmgjccidaaW.PrintMore
attribute [local go_sem] max2_int min2_int max_two min_two max_three min_three max_four min_four
set_option linter.unusedVariables false
set_option linter.unusedSimpArgs false
attribute [local go_sem high] eqA25
end Go.Proofs.Ytejidnmgjccidaa.R
end
section
namespace Go.Proofs.Ytejidnmgjccidaa.R
open Go.RowKit Go.Proofs.YtejidnmgjccidaaW.PrintWords Go.Proofs.YtejidnmgjccidaaW.PrintLast Go.Proofs.YtejidnmgjccidaaW.PrintMore
attribute [local go_sem] max2_int min2_int max_two min_two max_three min_three max_four min_four
set_option linter.unusedVariables false
set_option linter.unusedSimpArgs false
end Go.Proofs.Ytejidnmgjccidaa.R
end
section
namespace Go.Proofs.Ytejidnmgjccidaa.R
open Go.RowKit Go.Proofs.YtejidnmgjccidaaW.PrintWords Go.Proofs.YtejidnmgjccidaaW.PrintLast Go.Proofs.YtejidnmgjccidaaW.PrintMore
attribute [local go_sem] max2_int min2_int max_two min_two max_three min_three max_four min_four
set_option linter.unusedVariables false
set_option linter.unusedSimpArgs false
end Go.Proofs.Ytejidnmgjccidaa.R
end
section
namespace Go.Proofs.Ytejidnmgjccidaa.R
open Go.RowKit Go.Proofs.YtejidnmgjccidaaW.PrintWords Go.Proofs.YtejidnmgjccidaaW.PrintLast Go.Proofs.YtejidnmgjccidaaW.PrintMore
attribute [local go_sem] max2_int min2_int max_two min_two max_three min_three max_four min_four
set_option linter.unusedVariables false
set_option linter.unusedSimpArgs false
def plenumref13_less.f (a0_0 : Int) (a0_1 : Int) (a0_2 : Int) (a0_3 : Int) (a1_0 : Int) (a1_1 : Int) (a1_2 : Int) (a1_3 : Int) : Option (Bool) := if a0_1 = a1_1 then (if a0_2 = a1_2 then (some (decide (a0_3 < a1_3))) else (some (decide (a0_2 < a1_2)))) else (some (decide (a0_1 < a1_1)))
end Go.Proofs.Ytejidnmgjccidaa.R
end
section
namespace Go.Proofs.Ytejidnmgjccidaa.R
open Go.RowKit Go.Proofs.YtejidnmgjccidaaW.PrintWords Go.Proofs.YtejidnmgjccidaaW.PrintLast Go.Proofs.YtejidnmgjccidaaW.PrintMore
attribute [local go_sem] max2_int min2_int max_two min_two max_three min_three max_four min_four
set_option linter.unusedVariables false
set_option linter.unusedSimpArgs false
end Go.Proofs.Ytejidnmgjccidaa.R
end
section
namespace Go.Proofs.Ytejidnmgjccidaa.R
open Go.RowKit Go.Proofs.YtejidnmgjccidaaW.PrintWords Go.Proofs.YtejidnmgjccidaaW.PrintLast Go.Proofs.YtejidnmgjccidaaW.PrintMore
attribute [local go_sem] max2_int min2_int max_two min_two max_three min_three max_four min_four
set_option linter.unusedVariables false
set_option linter.unusedSimpArgs false
end Go.Proofs.Ytejidnmgjccidaa.R
end
section
namespace Go.Proofs.Ytejidnmgjccidaa.R
open Go.RowKit Go.Proofs.YtejidnmgjccidaaW.PrintWords Go.Proofs.YtejidnmgjccidaaW.PrintLast Go.Proofs.YtejidnmgjccidaaW.PrintMore
attribute [local go_sem] max2_int min2_int max_two min_two max_three min_three max_four min_four
set_option linter.unusedVariables false
set_option linter.unusedSimpArgs false
end Go.Proofs.Ytejidnmgjccidaa.R
end
section
namespace Go.Proofs.Ytejidnmgjccidaa.R
open Go.RowKit Go.Proofs.YtejidnmgjccidaaW.PrintWords Go.Proofs.YtejidnmgjccidaaW.PrintLast Go.Proofs.YtejidnmgjccidaaW.PrintMore
attribute [local go_sem] max2_int min2_int max_two min_two max_three min_three max_four min_four
set_option linter.unusedVariables false
set_option linter.unusedSimpArgs false
end Go.Proofs.Ytejidnmgjccidaa.R
end
section
namespace Go.Proofs.Ytejidnmgjccidaa.R
open Go.RowKit Go.Proofs.YtejidnmgjccidaaW.PrintWords Go.Proofs.YtejidnmgjccidaaW.PrintLast Go.Proofs.YtejidnmgjccidaaW.PrintMore
attribute [local go_sem] max2_int min2_int max_two min_two max_three min_three max_four min_four
set_option linter.unusedVariables false
set_option linter.unusedSimpArgs false
end Go.Proofs.Ytejidnmgjccidaa.R
end
section
namespace Go.Proofs.Ytejidnmgjccidaa.R
open Go.RowKit Go.Proofs.YtejidnmgjccidaaW.PrintWords Go.Proofs.YtejidnmgjccidaaW.PrintLast Go.Proofs.YtejidnmgjccidaaW.PrintMore
attribute [local go_sem] max2_int min2_int max_two min_two max_three min_three max_four min_four
set_option linter.unusedVariables false
set_option linter.unusedSimpArgs false
end Go.Proofs.Ytejidnmgjccidaa.R
end
section
namespace Go.Proofs.Ytejidnmgjccidaa.R
open Go.RowKit Go.Proofs.YtejidnmgjccidaaW.PrintWords Go.Proofs.YtejidnmgjccidaaW.PrintLast Go.Proofs.YtejidnmgjccidaaW.PrintMore
attribute [local go_sem] max2_int min2_int max_two min_two max_three min_three max_four min_four
set_option linter.unusedVariables false
set_option linter.unusedSimpArgs false
end Go.Proofs.Ytejidnmgjccidaa.R
end
section
namespace Go.Proofs.Ytejidnmgjccidaa.R
open Go.RowKit Go.Proofs.YtejidnmgjccidaaW.PrintWords Go.Proofs.YtejidnmgjccidaaW.PrintLast Go.Proofs.YtejidnmgjccidaaW.PrintMore
attribute [local go_sem] max2_int min2_int max_two min_two max_three min_three max_four min_four
set_option linter.unusedVariables false
set_option linter.unusedSimpArgs false
end Go.Proofs.Ytejidnmgjccidaa.R
end
section
namespace Go.Proofs.Ytejidnmgjccidaa.Pure
open Go.RowKit Go.Proofs.Ytejidnmgjccidaa.R Go.Proofs.YtejidnmgjccidaaW.PrintWords Go.Proofs.YtejidnmgjccidaaW.PrintLast Go.Proofs.YtejidnmgjccidaaW.PrintMore
set_option linter.unusedVariables false
theorem w64 {n : Int} (h0 : -9223372036854775808 ≤ n) (h1 : n ≤ 9223372036854775807) : wrap64 n = n := by unfold wrap64; omega
theorem few_eq (l : List S25) : plenumlaw13_few.f l = some (decide ((l.length : Int) ≤ 60)) := rfl
theorem refLess (a b : S25) : plenumref13_less.f a.f0 a.f1 a.f2.f0 a.f2.f1 b.f0 b.f1 b.f2.f0 b.f2.f1 = some (lss a b) := by
  unfold plenumref13_less.f lss
  split <;> (try split) <;> rfl
theorem drop_range (n : Nat) (hn : n < 17) : (List.range 17).drop n = n :: (List.range 17).drop (n + 1) := by
  rw [List.drop_eq_getElem_cons (by simpa using hn)]
  simp
theorem underL_at' (t : Tb) (o0 o1 : Int) (k : Nat) (hk : k < 17) : underL t o0 o1 ((List.range 17).drop k) = if occ (t k) = true then ((k : Int), (R.valOf (t k)).1, (R.valOf (t k)).2) else underL t o0 o1 ((List.range 17).drop (k + 1)) := by
  rw [drop_range k hk, underL]
end Go.Proofs.Ytejidnmgjccidaa.Pure
end
section
namespace Go.Proofs.Ytejidnmgjccidaa.Pure
open Go.RowKit Go.Proofs.Ytejidnmgjccidaa.R Go.Proofs.YtejidnmgjccidaaW.PrintWords Go.Proofs.YtejidnmgjccidaaW.PrintLast Go.Proofs.YtejidnmgjccidaaW.PrintMore
set_option maxRecDepth 100000 in
theorem awake_60 : plenumlaw13_awake.f 60 = some true := by decide +kernel
theorem awake_eq (k : Nat) (hk : 60 ≤ k) : plenumlaw13_awake.f k = some true := by
  obtain ⟨k, rfl⟩ : ∃ m, k = m + 60 := ⟨k - 60, by omega⟩
  clear hk
  induction k with
  | zero => exact awake_60
  | succ k ih =>
    have := plenumlaw13_awake.mono (k + 60)
    rw [show k + 1 + 60 = k + 60 + 1 by omega]
    exact this _ ih
end Go.Proofs.Ytejidnmgjccidaa.Pure
end
section
namespace Go.Proofs.Ytejidnmgjccidaa.Pure
open Go.RowKit Go.Proofs.Ytejidnmgjccidaa.R Go.Proofs.YtejidnmgjccidaaW.PrintWords Go.Proofs.YtejidnmgjccidaaW.PrintLast Go.Proofs.YtejidnmgjccidaaW.PrintMore
set_option linter.unusedVariables false
theorem underL_spec (t : Tb) (o0 o1 : Int) : ∀ (d n : Nat), n + d = 17 → ∃ m : Nat, n ≤ m ∧ m ≤ 17 ∧ (underL t o0 o1 ((List.range 17).drop n)).1 = (m : Int) ∧ (∀ i, n ≤ i → i < m → (R.valOf (t i)).1 = 0) ∧
    ((m = 17 ∧ (underL t o0 o1 ((List.range 17).drop n)).2 = (o0, o1)) ∨ (m ≤ 16 ∧ (underL t o0 o1 ((List.range 17).drop n)).2 = R.valOf (t m) ∧ (R.valOf (t m)).1 ≠ 0)) := by
  intro d
  induction d with
  | zero =>
    intro n hn
    obtain rfl : n = 17 := by omega
    exact ⟨17, by omega, by omega, rfl, fun i h1 h2 => by omega, Or.inl ⟨rfl, rfl⟩⟩
  | succ d ih =>
    intro n hn
    rw [underL_at' t o0 o1 n (by omega)]
    by_cases c : occ (t n) = true
    · rw [if_pos c]
      refine ⟨n, by omega, by omega, rfl, fun i h1 h2 => by omega, Or.inr ⟨by omega, rfl, ?_⟩⟩
      cases e : t n with
      | none => rw [e] at c; cases c
      | some x => rw [e] at c; simpa [occ, R.valOf] using c
    · rw [if_neg c]
      obtain ⟨m, h1, h2, h3, h4, h5⟩ := ih (n + 1) (by omega)
      refine ⟨m, by omega, h2, h3, fun i g1 g2 => ?_, h5⟩
      by_cases e : i = n
      · subst e
        cases e2 : t i with
        | none => rfl
        | some x => rw [e2] at c; simpa [occ, R.valOf] using c
      · exact h4 i (by omega) g2
theorem high_loop (l : List S25) (n m : Nat) (o0 o1 v0 v1 : Int) (hl : l.length ≤ 60) (hm : m ≤ 17) (hz : ∀ i, n < i → i < m → (R.valOf (tabOf l i)).1 = 0) (r : Option Bool) : ∀ (d i k : Nat), i + d = m → n < i → d < k →
    (∀ k2, 0 < k2 → plenumlaw13_PriorityHighest.l0 k2 l (n : Int) (m : Int) (m : Int) o0 o1 v0 v1 = r) → plenumlaw13_PriorityHighest.l0 k l (n : Int) (m : Int) (i : Int) o0 o1 v0 v1 = r := by
  intro d
  induction d with
  | zero =>
    intro i k hi hn hk h
    obtain rfl : i = m := by omega
    exact h k hk
  | succ d ih =>
    intro i k hi hn hk h
    obtain ⟨k, rfl⟩ : ∃ q, k = q + 1 := ⟨k - 1, by omega⟩
    rw [plenumlaw13_PriorityHighest.l0, if_pos (by omega)]
    unfold priority_Slot.f
    rw [if_pos (show okLen l from show l.length ≤ 1000 by omega), if_neg (by omega), Option.bind_some, if_pos rfl, show ((i : Int)).toNat = i from rfl, if_pos (hz i hn (by omega)), w64 (by omega) (by omega)]
    exact ih (i + 1) k (by omega) (by omega) (by omega) h
theorem PriorityHighest : plenumlaw13_PriorityHighest.Pure := by
  intro l n o hl hn ho
  refine ⟨1000, ?_⟩
  unfold plenumlaw13_PriorityHighest.f
  rw [awake_eq _ (by omega), Option.bind_some, if_pos rfl, few_eq, Option.bind_some]
  have hT : plenumlaw13_PriorityHighest.j0 1000 l n true o.f0 o.f1 = some true := by
    rw [show (1000 : Nat) = 999 + 1 from rfl, plenumlaw13_PriorityHighest.j0, if_pos rfl]
  by_cases cf : (l.length : Int) ≤ 60
  · have hlen : l.length ≤ 60 := by omega
    have hok : okLen l := show l.length ≤ 1000 by omega
    rw [if_pos (decide_eq_true cf)]
    by_cases c0 : n < 0
    · rw [if_pos c0]
      exact hT
    rw [if_neg c0]
    by_cases c1 : n > 16
    · rw [decide_eq_true c1]
      exact hT
    rw [decide_eq_false c1, show (1000 : Nat) = 999 + 1 from rfl, plenumlaw13_PriorityHighest.j0, if_neg (by decide)]
    obtain ⟨n, rfl⟩ := Int.eq_ofNat_of_zero_le (show 0 ≤ n by omega)
    obtain ⟨m, h1, h2, h3, h4, h5⟩ := underL_spec (tabOf l) o.f0 o.f1 (16 - n) (n + 1) (by omega)
    have hU : priority_Under.f l (n : Int) o.f0 o.f1 = some ((m : Int), (underL (tabOf l) o.f0 o.f1 ((List.range 17).drop (n + 1))).2.1, (underL (tabOf l) o.f0 o.f1 ((List.range 17).drop (n + 1))).2.2, 0) := by
      unfold priority_Under.f underOf
      rw [if_pos hok, if_neg (by omega), show ((n : Int) + 1).toNat = n + 1 by omega, h3]
    rw [hU, Option.bind_some, if_pos rfl, if_neg (by show ¬ ((m : Int) ≤ n); omega), decide_eq_false (by show ¬ ((m : Int) > 17); omega), show (999 : Nat) = 998 + 1 from rfl, plenumlaw13_PriorityHighest.j1, if_neg (by decide), w64 (by omega) (by omega)]
    refine high_loop l n m o.f0 o.f1 _ _ hlen h2 (fun i g1 g2 => h4 i (by omega) g2) (some true) (m - (n + 1)) (n + 1) 998 (by omega) (by omega) (by omega) (fun k hk => ?_)
    obtain ⟨k, rfl⟩ : ∃ q, k = q + 1 := ⟨k - 1, by omega⟩
    rw [plenumlaw13_PriorityHighest.l0, if_neg (by omega)]
    rcases h5 with ⟨e, e2⟩ | ⟨e, e2, e3⟩
    · rw [if_pos (by omega), e2]
      simp
    · rw [if_neg (by omega), e2]
      unfold priority_Slot.f priority_Active.f
      rw [if_pos hok, if_neg (by omega), if_pos hok, Option.bind_some, Option.bind_some, if_pos rfl, show ((m : Int)).toNat = m from rfl, if_pos (by simp), if_neg e3]
      by_cases c : (n : Int) > 0
      · rw [if_pos c]
      · rw [if_neg c]
        obtain rfl : n = 0 := by omega
        have : underOf (tabOf l) 0 o.f0 o.f1 = underL (tabOf l) o.f0 o.f1 ((List.range 17).drop 1) := rfl
        rw [this, if_pos (by exact h3), show (0 : Nat) + 1 = 1 from rfl] at *
        rw [e2]
        simp
  · rw [if_neg (by simpa using cf)]
    exact hT
end Go.Proofs.Ytejidnmgjccidaa.Pure
end
section
namespace Go.Proofs.Ytejidnmgjccidaa.priorityHighest
open Go.ChangeShapes Go.WideShapes Go.ChangeAt Go.RowKit
open Go.ChangeMaps (open_string shut_string)
open Go.Proofs.Ytejidnmgjccidaa.Opn Go.Proofs.YtejidnmgjccidaaW.PrintWords Go.Proofs.Ytejidnmgjccidaa.R
set_option linter.unusedVariables false
theorem own : ownKnob Try.prog.godebug = none := by kernel_rfl
theorem laidOut : laidOutB Try.prog = true := by kernel_rfl
set_option maxHeartbeats 2000000 in
set_option maxRecDepth 100000 in
theorem lifted (os : Os) (started : os.Started) (H : Type) (enc : TypeId × Value → H) :
    ReturnsInHanded {} Try.checked os 7 .any (Rows.priorityHighestSpec.pre6 enc Try.prog Try.f7 Rows.priorityHighestRow.domain false) (Rows.priorityHighestSpec.post enc Try.prog Try.f7 false true false false) := by
  refine returnsInHanded_of_change_sized (C := Try.checked) own started (by kernel_rfl) Try.func7
    (ChangeSpec.witness6 (enc := enc) (C := Try.checked) false ⟨#[], #[.slice none 0 0, .int .i64 0, (.agg #[(.int .i64 0), (.int .i64 0)])], []⟩ 8 (by kernel_rfl) (by kernel_rfl) (by kernel_rfl) (by kernel_rfl)) ?_
  intro W base args ds gs before hval0 hW hcnd hsz0 _
  have hsz : (DataW.weightsEach Try.prog (Try.f7.params.toList ++ Rows.priorityHighestSpec.plain.varTypes Try.prog) (ds ++ gs)).all (· ≤ reachBytes) = true := hsz0
  have hval : ∀ (j : Nat) t v, Try.f7.params[j]? = some t → args[j]? = some v → Value.okWide Try.prog W .any base t v := hval0
  have hW' := hW
  obtain ⟨p, q, hA0, hV, rfl, hfz, hnd⟩ := hW
  have hA : DataW.TrodAll enc Try.prog W 0 (fun _ => true) true Try.f7.params.toList args.toList ds p := hA0
  rw [Try.params7] at hA hval hsz
  obtain ⟨v0, vs0, d0, ds0, p0, q0, hargs, rfl, rfl, h0, r0⟩ := trodAll_cons hA
  obtain ⟨v1, vs1, d1, ds1, p1, q1, rfl, rfl, rfl, h1, r1⟩ := trodAll_cons r0
  obtain ⟨v2, vs2, d2, ds2, p2, q2, rfl, rfl, rfl, h2, r2⟩ := trodAll_cons r1
  obtain ⟨rfl, rfl, rfl⟩ := trodAll_nil r2
  obtain rfl : args = #[v0, v1, v2] := by cases args; simp_all
  obtain ⟨rfl, rfl⟩ := trodVars_none hV
  have k0 := h0
  have lt0 : ∀ x ∈ p0, x.block < W.heap.size := by obtain ⟨m, hm⟩ := k0; exact DataW.trod_lt m _ _ _ hm
  obtain ⟨b0, len0, cap0, hb0⟩ := okWide_slice Try.underlying26 (hval 0 26 v0 rfl rfl)
  obtain ⟨A0, c0, l0, hv0, hc0, hr0, hV0⟩ := arg_slice (opn_slice (B := 32) Try.underlying26 (by kernel_rfl) (by kernel_rfl) opn25) b0 len0 cap0 hb0 h0 (arg_weights hsz (j := 0) (t := 26) rfl rfl)
  clear hb0
  subst hv0
  obtain ⟨a1, rfl, rfl, rfl, w1⟩ := open_int Try.underlying3 (hval 1 3 v1 rfl rfl) h1
  have k2 := h2
  have lt2 : ∀ x ∈ p2, x.block < W.heap.size := by obtain ⟨m, hm⟩ := k2; exact DataW.trod_lt m _ _ _ hm
  obtain ⟨cs2, hcs2, _⟩ := okWide_struct Try.underlying23 (hval 2 23 v2 rfl rfl)
  obtain ⟨x2, ⟨l2, hv2, hK2⟩, hV2⟩ := arg_struct opn23 cs2 hcs2 h2 (arg_weights hsz (j := 2) (t := 23) rfl rfl)
  obtain rfl := k23_open hK2
  clear hcs2
  subst hv2
  clear hA0 hval0 hsz0 hsz
  obtain ⟨k, h⟩ := Pure.PriorityHighest l0 a1 x2 hV0 w1 hV2
  refine (R.plenumlaw13_PriorityHighest.calls k A0 c0 l0 a1 x2.f0 x2.f1 true W hr0 hc0 h).mono fun e W' ⟨he, bel0⟩ => ?_
  have bel : Below W.heap.size W W' := bel0
  subst he
  exact ⟨_, rfl, _, _, _, [], _, [], hW', trodAll_mk1 (shut_bool Try.underlying4 _), (trodAll_cons_mk (Below.trod laidOut (by kernel_rfl) (of_decide_eq_true (by kernel_rfl)) k0 bel lt0) (trodAll_cons_mk (shut_int Try.underlying3 w1) (trodAll_cons_mk (Below.trod laidOut (by kernel_rfl) (of_decide_eq_true (by kernel_rfl)) k2 bel lt2) trodAll_mk0))), rfl, bel.frame _, fun h => by cases h⟩
theorem over : Rows.priorityHighestRow.holds Try.pinned (OpenSpec.ofChange Rows.priorityHighestSpec) :=
  OpenClaim.holds_of_wide 7 Try.f7 rfl rfl rfl rfl rfl rfl rfl ⟨rfl, rfl, rfl, rfl, rfl⟩ rfl rfl rfl rfl rfl (by kernel_rfl) Try.func7 (by kernel_rfl)
    (of_decide_eq_true (by kernel_rfl)) (by unfold Func.isWrapper; first | (rw [if_pos (by decide +kernel)]; kernel_rfl) | (rw [if_neg (by decide +kernel)]; exact ⟨rfl, rfl⟩))
    (fun os started H enc _ => lifted os started H enc)
theorem proved : Rows.PriorityHighestSaid := over
#print axioms proved
end Go.Proofs.Ytejidnmgjccidaa.priorityHighest
namespace Go.Proofs.Ytejidnmgjccidaa
theorem priorityHighest_holds : Rows.PriorityHighestSaid := priorityHighest.proved
end Go.Proofs.Ytejidnmgjccidaa
end
