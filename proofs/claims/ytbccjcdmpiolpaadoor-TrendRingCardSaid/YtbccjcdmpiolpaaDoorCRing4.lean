/- TrendRingCard: one part of the proof that the law answers true for every input, and that its arguments read afterwards as before. No condition. -/
import Derived.Test.YtbccjcdmpiolpaaDoorCRing3
import Derived.Outline
import Derived.Deep.OwnRows
import Derived.LoopTactic
import Derived.Deep.MidRow
section
namespace Go.Proofs.YtbccjcdmpiolpaaDoor.T
open Go.RowKit Go.Proofs.YtbccjcdmpiolpaaDoorW.PrintWords Go.Proofs.YtbccjcdmpiolpaaDoorW.PrintLast Go.Proofs.YtbccjcdmpiolpaaDoorW.PrintMore
attribute [local go_sem] max2_int min2_int max_two min_two max_three min_three max_four min_four
set_option linter.unusedVariables false
set_option linter.unusedSimpArgs false
mutual
def plenumref41_Fit.j0 : Nat → Int → List (S34) → Bool → ByteArray → ByteArray → Int → Int → Int → Int → Option (Bool)
 | 0, _, _, _, _, _, _, _, _, _ => none
 | k + 1, x2, x3, x45, x170000, x170001, x170002, x170003, x170004, x170005 => if x45 = true then (some false) else (plenumref41_Fit.l0 k x2 x3 0 x170000 x170001 x170002 x170003 x170004 x170005)
def plenumref41_Fit.l0 : Nat → Int → List (S34) → Int → ByteArray → ByteArray → Int → Int → Int → Int → Option (Bool)
 | 0, _, _, _, _, _, _, _, _, _ => none
 | k + 1, x2, x3, x11, x170000, x170001, x170002, x170003, x170004, x170005 => if x11 < (x3.length : Int) then (if 0 ≤ x11 then (if ((rd_T34 x3 x11).f0) < 0 then (plenumref41_Fit.j2 k x2 x3 x11 true x170000 x170001 x170002 x170003 x170004 x170005 ((rd_T34 x3 x11).f1.f0.f0) ((rd_T34 x3 x11).f1.f0.f1) ((rd_T34 x3 x11).f1.f1) ((rd_T34 x3 x11).f1.f2)) else (if ((rd_T34 x3 x11).f0) > 3 then (plenumref41_Fit.j2 k x2 x3 x11 true x170000 x170001 x170002 x170003 x170004 x170005 ((rd_T34 x3 x11).f1.f0.f0) ((rd_T34 x3 x11).f1.f0.f1) ((rd_T34 x3 x11).f1.f1) ((rd_T34 x3 x11).f1.f2)) else (if ((rd_T34 x3 x11).f1.f2) < 0 then (plenumref41_Fit.j2 k x2 x3 x11 true x170000 x170001 x170002 x170003 x170004 x170005 ((rd_T34 x3 x11).f1.f0.f0) ((rd_T34 x3 x11).f1.f0.f1) ((rd_T34 x3 x11).f1.f1) ((rd_T34 x3 x11).f1.f2)) else (if ((rd_T34 x3 x11).f1.f2) > 1010000 then (plenumref41_Fit.j2 k x2 x3 x11 true x170000 x170001 x170002 x170003 x170004 x170005 ((rd_T34 x3 x11).f1.f0.f0) ((rd_T34 x3 x11).f1.f0.f1) ((rd_T34 x3 x11).f1.f1) ((rd_T34 x3 x11).f1.f2)) else (if x170002 = 1 then (plenumref41_Fit.j2 k x2 x3 x11 (decide (((rd_T34 x3 x11).f1.f2) > (wrap64 (x2 + (wrap64 (400 * x170003)))))) x170000 x170001 x170002 x170003 x170004 x170005 ((rd_T34 x3 x11).f1.f0.f0) ((rd_T34 x3 x11).f1.f0.f1) ((rd_T34 x3 x11).f1.f1) ((rd_T34 x3 x11).f1.f2)) else (plenumref41_Fit.j2 k x2 x3 x11 false x170000 x170001 x170002 x170003 x170004 x170005 ((rd_T34 x3 x11).f1.f0.f0) ((rd_T34 x3 x11).f1.f0.f1) ((rd_T34 x3 x11).f1.f1) ((rd_T34 x3 x11).f1.f2))))))) else (none)) else (some true)
def plenumref41_Fit.j2 : Nat → Int → List (S34) → Int → Bool → ByteArray → ByteArray → Int → Int → Int → Int → Int → Int → Int → Int → Option (Bool)
 | 0, _, _, _, _, _, _, _, _, _, _, _, _, _, _ => none
 | k + 1, x2, x3, x11, x95, x170000, x170001, x170002, x170003, x170004, x170005, x173000, x173001, x173002, x173003 => if x95 = true then (some false) else (if x173000 < 0 then (some false) else (if x173000 > 3 then (some false) else (if x173001 < (-1000000000000) then (some false) else (if x173001 > 1000000000000 then (some false) else (if x173002 < 0 then (some false) else (if x173002 > 15 then (some false) else (plenumref41_Fit.l0 k x2 x3 (wrap64 (x11 + 1)) x170000 x170001 x170002 x170003 x170004 x170005)))))))
end
def plenumref41_Fit.f (k : Nat) (a0_0 : ByteArray) (a0_1 : ByteArray) (a0_2 : Int) (a0_3 : Int) (a0_4 : Int) (a0_5 : Int) (a1 : Int) (a2 : Int) (l3 : List (S34)) (a4 : Int) : Option (Bool) := (plenumref41_Check.f k a0_0 a0_1 a0_2 a0_3 a0_4 a0_5 a0_1 a1 0 (⟨#[]⟩ : ByteArray) 0 0 0 ([] : List ByteArray) 0 0 0 0).bind fun t170 => (if t170 = 0 then (if (a0_0.size : Int) > 100 then (plenumref41_Fit.j0 k a2 l3 true a0_0 a0_1 a0_2 a0_3 a0_4 a0_5) else (if (a0_1.size : Int) > 100 then (plenumref41_Fit.j0 k a2 l3 true a0_0 a0_1 a0_2 a0_3 a0_4 a0_5) else (if (l3.length : Int) > a4 then (plenumref41_Fit.j0 k a2 l3 true a0_0 a0_1 a0_2 a0_3 a0_4 a0_5) else (if a2 < 0 then (plenumref41_Fit.j0 k a2 l3 true a0_0 a0_1 a0_2 a0_3 a0_4 a0_5) else (plenumref41_Fit.j0 k a2 l3 (decide (a2 > 1000000)) a0_0 a0_1 a0_2 a0_3 a0_4 a0_5))))) else (plenumref41_Fit.j0 k a2 l3 true a0_0 a0_1 a0_2 a0_3 a0_4 a0_5))
set_option maxHeartbeats 8000000 in
set_option maxRecDepth 100000 in
theorem plenumref41_Fit.calls (k : Nat) (a0_0 : ByteArray) (a0_1 : ByteArray) (a0_2 : Int) (a0_3 : Int) (a0_4 : Int) (a0_5 : Int) (a1 : Int) (a2 : Int) (A3 : Option Addr) (c3 : Nat) (l3 : List (S34)) (a4 : Int) (r : Bool) (w : World) (hG : Glob w) (hr3 : Kd.C k34 w A3 l3.length l3) (hc3 : l3.length ≤ c3) (h : plenumref41_Fit.f k a0_0 a0_1 a0_2 a0_3 a0_4 a0_5 a1 a2 l3 a4 = some r) :
  Calls Tryd.prog 9 #[.agg #[.string a0_0, .string a0_1, .int .i64 a0_2, .int .i64 a0_3, .int .i64 a0_4, .int .i64 a0_5], .int .i64 a1, .int .i64 a2, .slice A3 l3.length c3, .int .i64 a4] w fun e w' => e = .returned (.bool r) ∧ Below w.heap.size w w' := by
 have hu23 := Tryd.underlying23
 have hu51 := Tryd.underlying51
 have hu32 := Tryd.underlying32
 have HG := Aside0.mk hG
 clear hG
 have HR3 := Aside0.mk hr3
 have HC3 := Aside0.mk hc3
 clear hr3 hc3
 have HB := Aside0.mk (Below.refl w.heap.size w)
 have H : ((plenumref41_Check.f k a0_0 a0_1 a0_2 a0_3 a0_4 a0_5 a0_1 a1 0 (⟨#[]⟩ : ByteArray) 0 0 0 ([] : List ByteArray) 0 0 0 0).bind fun t170 => (if t170 = 0 then (if (a0_0.size : Int) > 100 then (plenumref41_Fit.j0 k a2 l3 true a0_0 a0_1 a0_2 a0_3 a0_4 a0_5) else (if (a0_1.size : Int) > 100 then (plenumref41_Fit.j0 k a2 l3 true a0_0 a0_1 a0_2 a0_3 a0_4 a0_5) else (if (l3.length : Int) > a4 then (plenumref41_Fit.j0 k a2 l3 true a0_0 a0_1 a0_2 a0_3 a0_4 a0_5) else (if a2 < 0 then (plenumref41_Fit.j0 k a2 l3 true a0_0 a0_1 a0_2 a0_3 a0_4 a0_5) else (plenumref41_Fit.j0 k a2 l3 (decide (a2 > 1000000)) a0_0 a0_1 a0_2 a0_3 a0_4 a0_5))))) else (plenumref41_Fit.j0 k a2 l3 true a0_0 a0_1 a0_2 a0_3 a0_4 a0_5))) = some r := h
 clear h
 have HC6 := Aside0.mk H
 clear H
 go_enter Tryd.func9, Tryd.ntmps9
 go_upto_region 1 with (first | ((with_reducible refine gate_dst (N := 5) rfl ?_); (try (refine gate_guard (by rfl) ?_; dsimp only)); refine box_event ?hg (N := 5) ?hd (cs := #[.string a0_0, .string a0_1, .int .i64 a0_2, .int .i64 a0_3, .int .i64 a0_4, .int .i64 a0_5]) (t := 23) ?hr ?_; (case hd => rfl); (case hg => rfl); (case hr => first | (go_simp; done) | (go_simp; rfl)); intro gb169 hg w7 hbox hb; have n0_ := Aside0.mk (below_step (by repeat (first | (with_reducible first | exact HB.out | apply below_alloc | apply pw_below_drewN | apply below_drew1) | exact HB.out)) hb); have n1_ := Aside0.mk (hbox); have n2_ := Aside0.mk ((by rw [hg]; exact (below_size (by repeat (first | (with_reducible first | exact HB.out | apply below_alloc | apply pw_below_drewN | apply below_drew1) | exact HB.out))) : w.heap.size ≤ gb169)); have n3_ := Aside0.mk ((by rw [hg]; exact (below_size (by repeat (first | (with_reducible first | exact HB.out | apply below_alloc | apply pw_below_drewN | apply below_drew1) | exact HB.out))) : w.heap.size ≤ gb169)); clear HB; have HB := n0_; have BK169 := n1_; have GW169 := n2_; have GE169 := n3_; clear n0_ n1_ n2_ n3_; clear hb hbox hg))
 (try simp only [Act.put, List.setIfInBounds_toArray, List.set_cons_zero, List.set_cons_succ])
 go_cut [45] (fun v45 wc => ∃ (kq : Nat) (x45_5 : Bool), v45 = .bool x45_5 ∧ Aside0 (plenumref41_Fit.j0 kq a2 l3 x45_5 a0_0 a0_1 a0_2 a0_3 a0_4 a0_5 = some r) ∧ Aside0 (kq ≤ k) ∧ Aside0 (wc.heap[gb169]? = some (.cells #[.string a0_0, .string a0_1, .int .i64 a0_2, .int .i64 a0_3, .int .i64 a0_4, .int .i64 a0_5] 23 (0, 0))) ∧ Aside0 (Below w.heap.size w wc))
 case first =>
  have H := HC6.out
  clear HC6
  replace H := Option.bind_eq_some_iff.mp H
  obtain ⟨t170, A80, H⟩ := H
  replace H : (if t170 = 0 then (if (a0_0.size : Int) > 100 then (plenumref41_Fit.j0 k a2 l3 true a0_0 a0_1 a0_2 a0_3 a0_4 a0_5) else (if (a0_1.size : Int) > 100 then (plenumref41_Fit.j0 k a2 l3 true a0_0 a0_1 a0_2 a0_3 a0_4 a0_5) else (if (l3.length : Int) > a4 then (plenumref41_Fit.j0 k a2 l3 true a0_0 a0_1 a0_2 a0_3 a0_4 a0_5) else (if a2 < 0 then (plenumref41_Fit.j0 k a2 l3 true a0_0 a0_1 a0_2 a0_3 a0_4 a0_5) else (plenumref41_Fit.j0 k a2 l3 (decide (a2 > 1000000)) a0_0 a0_1 a0_2 a0_3 a0_4 a0_5))))) else (plenumref41_Fit.j0 k a2 l3 true a0_0 a0_1 a0_2 a0_3 a0_4 a0_5)) = some r := H
  have A8 := Aside0.mk A80
  clear A80
  by_cases c9 : t170 = 0
  ·rw [if_pos c9] at H
   have c9b0 : (t170 == 0) = true := beq_iff_eq.mpr c9
   have c9b1 : (t170 != 0) = false := bne_eq_false_iff_eq.mpr c9
   clear c9
   (first | rw [c9b0] | (simp only [i64_w, i32_w]; rw [c9b0]) | skip)
   by_cases c10 : (a0_0.size : Int) > 100
   ·rw [if_pos c10] at H
    have c10b0 : decide (100 < (a0_0.size : Int)) = true := decide_eq_true c10
    have c10b1 : decide (100 < a0_0.size) = true := decide_eq_true (by omega)
    clear c10
    have H' := Aside0.mk H
    clear H
    have hcz11_0 : w7.cell? ⟨gb169, 0, none⟩ = some (.string a0_0) := (blk_cell BK169.out 0).trans rfl
    have hcz11_1 : w7.cell? ⟨gb169, 1, none⟩ = some (.string a0_1) := (blk_cell BK169.out 1).trans rfl
    have hcz11_2 : w7.cell? ⟨gb169, 2, none⟩ = some (.int .i64 a0_2) := (blk_cell BK169.out 2).trans rfl
    have hcz11_3 : w7.cell? ⟨gb169, 3, none⟩ = some (.int .i64 a0_3) := (blk_cell BK169.out 3).trans rfl
    have hcz11_4 : w7.cell? ⟨gb169, 4, none⟩ = some (.int .i64 a0_4) := (blk_cell BK169.out 4).trans rfl
    have hcz11_5 : w7.cell? ⟨gb169, 5, none⟩ = some (.int .i64 a0_5) := (blk_cell BK169.out 5).trans rfl
    have hfz11_0 := blk_frozen BK169.out 0
    have hfz11_1 := blk_frozen BK169.out 1
    have hfz11_2 := blk_frozen BK169.out 2
    have hfz11_3 := blk_frozen BK169.out 3
    have hfz11_4 := blk_frozen BK169.out 4
    have hfz11_5 := blk_frozen BK169.out 5
    go_wp2_with (first | ((with_reducible refine gate_callee (f := 18) rfl ?_); refine goesL_ (some 18) rfl rfl Tryd.func18 (by kernel_rfl) rfl #[.agg #[.string a0_0, .string a0_1, .int .i64 a0_2, .int .i64 a0_3, .int .i64 a0_4, .int .i64 a0_5], .agg #[.string a0_1, .int .i64 a1, .int .i64 0, .string (⟨#[]⟩ : ByteArray), .int .i64 0, .int .i64 0, .int .i64 0, .slice none 0 0, .int .i64 0, .int .i64 0, .int .i64 0, .int .i64 0]] rfl (by (try simp only [List.map_toArray, List.map_cons, List.map_nil]); first | done | rfl | (simp only [List.length_drop, List.length_take]; rfl)) ?_; (refine (plenumref41_Check.calls k a0_0 a0_1 a0_2 a0_3 a0_4 a0_5 a0_1 a1 0 (⟨#[]⟩ : ByteArray) 0 0 0 _ _ ([] : List ByteArray) 0 0 0 0 t170 _ ?side99  ?side1 ?side2 A8.out).mono ?_); (case side1 => exact Kd.C_nil _ _); (case side2 => exact Nat.le_refl _); (case side99 => first | exact HG.out | exact Glob.below HG.out (by repeat (first | (with_reducible first | exact HB.out | apply below_alloc | apply pw_below_drewN | apply below_drew1 | refine below_set ?_ GE169.out) | exact HB.out))); rintro e w12 ⟨rfl, hb⟩; refine ⟨_, rfl, ?_⟩; have n0_ := Aside0.mk (blk_below (g := gb169) (o := .cells #[.string a0_0, .string a0_1, .int .i64 a0_2, .int .i64 a0_3, .int .i64 a0_4, .int .i64 a0_5] 23 (0, 0)) (by (with_reducible repeat (first | refine blk_drewN ?_ _ | refine blk_drew ?_ | refine blk_alloc ?_ _)); exact BK169.out) hb); have n1_ := Aside0.mk (below_step (by repeat (first | (with_reducible first | exact HB.out | apply below_alloc | apply pw_below_drewN | apply below_drew1 | refine below_set ?_ GE169.out) | exact HB.out)) hb); clear BK169; clear HB; have BK169 := n0_; have HB := n1_; clear n0_ n1_; (try clear hb); (try clear hb2); (try clear hk); (try clear hi); have hcz13_0 : w12.cell? ⟨gb169, 0, none⟩ = some (.string a0_0) := (blk_cell BK169.out 0).trans rfl; have hcz13_1 : w12.cell? ⟨gb169, 1, none⟩ = some (.string a0_1) := (blk_cell BK169.out 1).trans rfl; have hcz13_2 : w12.cell? ⟨gb169, 2, none⟩ = some (.int .i64 a0_2) := (blk_cell BK169.out 2).trans rfl; have hcz13_3 : w12.cell? ⟨gb169, 3, none⟩ = some (.int .i64 a0_3) := (blk_cell BK169.out 3).trans rfl; have hcz13_4 : w12.cell? ⟨gb169, 4, none⟩ = some (.int .i64 a0_4) := (blk_cell BK169.out 4).trans rfl; have hcz13_5 : w12.cell? ⟨gb169, 5, none⟩ = some (.int .i64 a0_5) := (blk_cell BK169.out 5).trans rfl; have hfz13_0 := blk_frozen BK169.out 0; have hfz13_1 := blk_frozen BK169.out 1; have hfz13_2 := blk_frozen BK169.out 2; have hfz13_3 := blk_frozen BK169.out 3; have hfz13_4 := blk_frozen BK169.out 4; have hfz13_5 := blk_frozen BK169.out 5))
    go_meet
    case rel => exact ⟨_, (true), (by first | rfl | (simp; done) | (simp [*]; done)), H', ⟨by first | omega | exact Nat.le_refl _⟩, ⟨by (with_reducible repeat (first | refine blk_drewN ?_ _ | refine blk_drew ?_ | refine blk_alloc ?_ _)); exact BK169.out⟩, ⟨by repeat (first | (with_reducible first | exact HB.out | apply below_alloc | apply pw_below_drewN | apply below_drew1 | refine below_set ?_ GE169.out) | exact HB.out)⟩⟩
   ·rw [if_neg c10] at H
    have c10b0 : decide (100 < (a0_0.size : Int)) = false := decide_eq_false c10
    have c10b1 : decide (100 < a0_0.size) = false := decide_eq_false (by omega)
    clear c10
    by_cases c14 : (a0_1.size : Int) > 100
    ·rw [if_pos c14] at H
     have c14b0 : decide (100 < (a0_1.size : Int)) = true := decide_eq_true c14
     have c14b1 : decide (100 < a0_1.size) = true := decide_eq_true (by omega)
     clear c14
     have H' := Aside0.mk H
     clear H
     have hcz15_0 : w7.cell? ⟨gb169, 0, none⟩ = some (.string a0_0) := (blk_cell BK169.out 0).trans rfl
     have hcz15_1 : w7.cell? ⟨gb169, 1, none⟩ = some (.string a0_1) := (blk_cell BK169.out 1).trans rfl
     have hcz15_2 : w7.cell? ⟨gb169, 2, none⟩ = some (.int .i64 a0_2) := (blk_cell BK169.out 2).trans rfl
     have hcz15_3 : w7.cell? ⟨gb169, 3, none⟩ = some (.int .i64 a0_3) := (blk_cell BK169.out 3).trans rfl
     have hcz15_4 : w7.cell? ⟨gb169, 4, none⟩ = some (.int .i64 a0_4) := (blk_cell BK169.out 4).trans rfl
     have hcz15_5 : w7.cell? ⟨gb169, 5, none⟩ = some (.int .i64 a0_5) := (blk_cell BK169.out 5).trans rfl
     have hfz15_0 := blk_frozen BK169.out 0
     have hfz15_1 := blk_frozen BK169.out 1
     have hfz15_2 := blk_frozen BK169.out 2
     have hfz15_3 := blk_frozen BK169.out 3
     have hfz15_4 := blk_frozen BK169.out 4
     have hfz15_5 := blk_frozen BK169.out 5
     go_wp2_with (first | ((with_reducible refine gate_callee (f := 18) rfl ?_); refine goesL_ (some 18) rfl rfl Tryd.func18 (by kernel_rfl) rfl #[.agg #[.string a0_0, .string a0_1, .int .i64 a0_2, .int .i64 a0_3, .int .i64 a0_4, .int .i64 a0_5], .agg #[.string a0_1, .int .i64 a1, .int .i64 0, .string (⟨#[]⟩ : ByteArray), .int .i64 0, .int .i64 0, .int .i64 0, .slice none 0 0, .int .i64 0, .int .i64 0, .int .i64 0, .int .i64 0]] rfl (by (try simp only [List.map_toArray, List.map_cons, List.map_nil]); first | done | rfl | (simp only [List.length_drop, List.length_take]; rfl)) ?_; (refine (plenumref41_Check.calls k a0_0 a0_1 a0_2 a0_3 a0_4 a0_5 a0_1 a1 0 (⟨#[]⟩ : ByteArray) 0 0 0 _ _ ([] : List ByteArray) 0 0 0 0 t170 _ ?side99  ?side1 ?side2 A8.out).mono ?_); (case side1 => exact Kd.C_nil _ _); (case side2 => exact Nat.le_refl _); (case side99 => first | exact HG.out | exact Glob.below HG.out (by repeat (first | (with_reducible first | exact HB.out | apply below_alloc | apply pw_below_drewN | apply below_drew1 | refine below_set ?_ GE169.out) | exact HB.out))); rintro e w16 ⟨rfl, hb⟩; refine ⟨_, rfl, ?_⟩; have n0_ := Aside0.mk (blk_below (g := gb169) (o := .cells #[.string a0_0, .string a0_1, .int .i64 a0_2, .int .i64 a0_3, .int .i64 a0_4, .int .i64 a0_5] 23 (0, 0)) (by (with_reducible repeat (first | refine blk_drewN ?_ _ | refine blk_drew ?_ | refine blk_alloc ?_ _)); exact BK169.out) hb); have n1_ := Aside0.mk (below_step (by repeat (first | (with_reducible first | exact HB.out | apply below_alloc | apply pw_below_drewN | apply below_drew1 | refine below_set ?_ GE169.out) | exact HB.out)) hb); clear BK169; clear HB; have BK169 := n0_; have HB := n1_; clear n0_ n1_; (try clear hb); (try clear hb2); (try clear hk); (try clear hi); have hcz17_0 : w16.cell? ⟨gb169, 0, none⟩ = some (.string a0_0) := (blk_cell BK169.out 0).trans rfl; have hcz17_1 : w16.cell? ⟨gb169, 1, none⟩ = some (.string a0_1) := (blk_cell BK169.out 1).trans rfl; have hcz17_2 : w16.cell? ⟨gb169, 2, none⟩ = some (.int .i64 a0_2) := (blk_cell BK169.out 2).trans rfl; have hcz17_3 : w16.cell? ⟨gb169, 3, none⟩ = some (.int .i64 a0_3) := (blk_cell BK169.out 3).trans rfl; have hcz17_4 : w16.cell? ⟨gb169, 4, none⟩ = some (.int .i64 a0_4) := (blk_cell BK169.out 4).trans rfl; have hcz17_5 : w16.cell? ⟨gb169, 5, none⟩ = some (.int .i64 a0_5) := (blk_cell BK169.out 5).trans rfl; have hfz17_0 := blk_frozen BK169.out 0; have hfz17_1 := blk_frozen BK169.out 1; have hfz17_2 := blk_frozen BK169.out 2; have hfz17_3 := blk_frozen BK169.out 3; have hfz17_4 := blk_frozen BK169.out 4; have hfz17_5 := blk_frozen BK169.out 5))
     go_meet
     case rel => exact ⟨_, (true), (by first | rfl | (simp; done) | (simp [*]; done)), H', ⟨by first | omega | exact Nat.le_refl _⟩, ⟨by (with_reducible repeat (first | refine blk_drewN ?_ _ | refine blk_drew ?_ | refine blk_alloc ?_ _)); exact BK169.out⟩, ⟨by repeat (first | (with_reducible first | exact HB.out | apply below_alloc | apply pw_below_drewN | apply below_drew1 | refine below_set ?_ GE169.out) | exact HB.out)⟩⟩
    ·rw [if_neg c14] at H
     have c14b0 : decide (100 < (a0_1.size : Int)) = false := decide_eq_false c14
     have c14b1 : decide (100 < a0_1.size) = false := decide_eq_false (by omega)
     clear c14
     by_cases c18 : (l3.length : Int) > a4
     ·rw [if_pos c18] at H
      have c18b0 : decide (a4 < (l3.length : Int)) = true := decide_eq_true c18
      clear c18
      have H' := Aside0.mk H
      clear H
      have hcz19_0 : w7.cell? ⟨gb169, 0, none⟩ = some (.string a0_0) := (blk_cell BK169.out 0).trans rfl
      have hcz19_1 : w7.cell? ⟨gb169, 1, none⟩ = some (.string a0_1) := (blk_cell BK169.out 1).trans rfl
      have hcz19_2 : w7.cell? ⟨gb169, 2, none⟩ = some (.int .i64 a0_2) := (blk_cell BK169.out 2).trans rfl
      have hcz19_3 : w7.cell? ⟨gb169, 3, none⟩ = some (.int .i64 a0_3) := (blk_cell BK169.out 3).trans rfl
      have hcz19_4 : w7.cell? ⟨gb169, 4, none⟩ = some (.int .i64 a0_4) := (blk_cell BK169.out 4).trans rfl
      have hcz19_5 : w7.cell? ⟨gb169, 5, none⟩ = some (.int .i64 a0_5) := (blk_cell BK169.out 5).trans rfl
      have hfz19_0 := blk_frozen BK169.out 0
      have hfz19_1 := blk_frozen BK169.out 1
      have hfz19_2 := blk_frozen BK169.out 2
      have hfz19_3 := blk_frozen BK169.out 3
      have hfz19_4 := blk_frozen BK169.out 4
      have hfz19_5 := blk_frozen BK169.out 5
      go_wp2_with (first | ((with_reducible refine gate_callee (f := 18) rfl ?_); refine goesL_ (some 18) rfl rfl Tryd.func18 (by kernel_rfl) rfl #[.agg #[.string a0_0, .string a0_1, .int .i64 a0_2, .int .i64 a0_3, .int .i64 a0_4, .int .i64 a0_5], .agg #[.string a0_1, .int .i64 a1, .int .i64 0, .string (⟨#[]⟩ : ByteArray), .int .i64 0, .int .i64 0, .int .i64 0, .slice none 0 0, .int .i64 0, .int .i64 0, .int .i64 0, .int .i64 0]] rfl (by (try simp only [List.map_toArray, List.map_cons, List.map_nil]); first | done | rfl | (simp only [List.length_drop, List.length_take]; rfl)) ?_; (refine (plenumref41_Check.calls k a0_0 a0_1 a0_2 a0_3 a0_4 a0_5 a0_1 a1 0 (⟨#[]⟩ : ByteArray) 0 0 0 _ _ ([] : List ByteArray) 0 0 0 0 t170 _ ?side99  ?side1 ?side2 A8.out).mono ?_); (case side1 => exact Kd.C_nil _ _); (case side2 => exact Nat.le_refl _); (case side99 => first | exact HG.out | exact Glob.below HG.out (by repeat (first | (with_reducible first | exact HB.out | apply below_alloc | apply pw_below_drewN | apply below_drew1 | refine below_set ?_ GE169.out) | exact HB.out))); rintro e w20 ⟨rfl, hb⟩; refine ⟨_, rfl, ?_⟩; have n0_ := Aside0.mk (blk_below (g := gb169) (o := .cells #[.string a0_0, .string a0_1, .int .i64 a0_2, .int .i64 a0_3, .int .i64 a0_4, .int .i64 a0_5] 23 (0, 0)) (by (with_reducible repeat (first | refine blk_drewN ?_ _ | refine blk_drew ?_ | refine blk_alloc ?_ _)); exact BK169.out) hb); have n1_ := Aside0.mk (below_step (by repeat (first | (with_reducible first | exact HB.out | apply below_alloc | apply pw_below_drewN | apply below_drew1 | refine below_set ?_ GE169.out) | exact HB.out)) hb); clear BK169; clear HB; have BK169 := n0_; have HB := n1_; clear n0_ n1_; (try clear hb); (try clear hb2); (try clear hk); (try clear hi); have hcz21_0 : w20.cell? ⟨gb169, 0, none⟩ = some (.string a0_0) := (blk_cell BK169.out 0).trans rfl; have hcz21_1 : w20.cell? ⟨gb169, 1, none⟩ = some (.string a0_1) := (blk_cell BK169.out 1).trans rfl; have hcz21_2 : w20.cell? ⟨gb169, 2, none⟩ = some (.int .i64 a0_2) := (blk_cell BK169.out 2).trans rfl; have hcz21_3 : w20.cell? ⟨gb169, 3, none⟩ = some (.int .i64 a0_3) := (blk_cell BK169.out 3).trans rfl; have hcz21_4 : w20.cell? ⟨gb169, 4, none⟩ = some (.int .i64 a0_4) := (blk_cell BK169.out 4).trans rfl; have hcz21_5 : w20.cell? ⟨gb169, 5, none⟩ = some (.int .i64 a0_5) := (blk_cell BK169.out 5).trans rfl; have hfz21_0 := blk_frozen BK169.out 0; have hfz21_1 := blk_frozen BK169.out 1; have hfz21_2 := blk_frozen BK169.out 2; have hfz21_3 := blk_frozen BK169.out 3; have hfz21_4 := blk_frozen BK169.out 4; have hfz21_5 := blk_frozen BK169.out 5))
      go_meet
      case rel => exact ⟨_, (true), (by first | rfl | (simp; done) | (simp [*]; done)), H', ⟨by first | omega | exact Nat.le_refl _⟩, ⟨by (with_reducible repeat (first | refine blk_drewN ?_ _ | refine blk_drew ?_ | refine blk_alloc ?_ _)); exact BK169.out⟩, ⟨by repeat (first | (with_reducible first | exact HB.out | apply below_alloc | apply pw_below_drewN | apply below_drew1 | refine below_set ?_ GE169.out) | exact HB.out)⟩⟩
     ·rw [if_neg c18] at H
      have c18b0 : decide (a4 < (l3.length : Int)) = false := decide_eq_false c18
      clear c18
      by_cases c22 : a2 < 0
      ·rw [if_pos c22] at H
       have c22b0 : decide (a2 < 0) = true := decide_eq_true c22
       clear c22
       have H' := Aside0.mk H
       clear H
       have hcz23_0 : w7.cell? ⟨gb169, 0, none⟩ = some (.string a0_0) := (blk_cell BK169.out 0).trans rfl
       have hcz23_1 : w7.cell? ⟨gb169, 1, none⟩ = some (.string a0_1) := (blk_cell BK169.out 1).trans rfl
       have hcz23_2 : w7.cell? ⟨gb169, 2, none⟩ = some (.int .i64 a0_2) := (blk_cell BK169.out 2).trans rfl
       have hcz23_3 : w7.cell? ⟨gb169, 3, none⟩ = some (.int .i64 a0_3) := (blk_cell BK169.out 3).trans rfl
       have hcz23_4 : w7.cell? ⟨gb169, 4, none⟩ = some (.int .i64 a0_4) := (blk_cell BK169.out 4).trans rfl
       have hcz23_5 : w7.cell? ⟨gb169, 5, none⟩ = some (.int .i64 a0_5) := (blk_cell BK169.out 5).trans rfl
       have hfz23_0 := blk_frozen BK169.out 0
       have hfz23_1 := blk_frozen BK169.out 1
       have hfz23_2 := blk_frozen BK169.out 2
       have hfz23_3 := blk_frozen BK169.out 3
       have hfz23_4 := blk_frozen BK169.out 4
       have hfz23_5 := blk_frozen BK169.out 5
       go_wp2_with (first | ((with_reducible refine gate_callee (f := 18) rfl ?_); refine goesL_ (some 18) rfl rfl Tryd.func18 (by kernel_rfl) rfl #[.agg #[.string a0_0, .string a0_1, .int .i64 a0_2, .int .i64 a0_3, .int .i64 a0_4, .int .i64 a0_5], .agg #[.string a0_1, .int .i64 a1, .int .i64 0, .string (⟨#[]⟩ : ByteArray), .int .i64 0, .int .i64 0, .int .i64 0, .slice none 0 0, .int .i64 0, .int .i64 0, .int .i64 0, .int .i64 0]] rfl (by (try simp only [List.map_toArray, List.map_cons, List.map_nil]); first | done | rfl | (simp only [List.length_drop, List.length_take]; rfl)) ?_; (refine (plenumref41_Check.calls k a0_0 a0_1 a0_2 a0_3 a0_4 a0_5 a0_1 a1 0 (⟨#[]⟩ : ByteArray) 0 0 0 _ _ ([] : List ByteArray) 0 0 0 0 t170 _ ?side99  ?side1 ?side2 A8.out).mono ?_); (case side1 => exact Kd.C_nil _ _); (case side2 => exact Nat.le_refl _); (case side99 => first | exact HG.out | exact Glob.below HG.out (by repeat (first | (with_reducible first | exact HB.out | apply below_alloc | apply pw_below_drewN | apply below_drew1 | refine below_set ?_ GE169.out) | exact HB.out))); rintro e w24 ⟨rfl, hb⟩; refine ⟨_, rfl, ?_⟩; have n0_ := Aside0.mk (blk_below (g := gb169) (o := .cells #[.string a0_0, .string a0_1, .int .i64 a0_2, .int .i64 a0_3, .int .i64 a0_4, .int .i64 a0_5] 23 (0, 0)) (by (with_reducible repeat (first | refine blk_drewN ?_ _ | refine blk_drew ?_ | refine blk_alloc ?_ _)); exact BK169.out) hb); have n1_ := Aside0.mk (below_step (by repeat (first | (with_reducible first | exact HB.out | apply below_alloc | apply pw_below_drewN | apply below_drew1 | refine below_set ?_ GE169.out) | exact HB.out)) hb); clear BK169; clear HB; have BK169 := n0_; have HB := n1_; clear n0_ n1_; (try clear hb); (try clear hb2); (try clear hk); (try clear hi); have hcz25_0 : w24.cell? ⟨gb169, 0, none⟩ = some (.string a0_0) := (blk_cell BK169.out 0).trans rfl; have hcz25_1 : w24.cell? ⟨gb169, 1, none⟩ = some (.string a0_1) := (blk_cell BK169.out 1).trans rfl; have hcz25_2 : w24.cell? ⟨gb169, 2, none⟩ = some (.int .i64 a0_2) := (blk_cell BK169.out 2).trans rfl; have hcz25_3 : w24.cell? ⟨gb169, 3, none⟩ = some (.int .i64 a0_3) := (blk_cell BK169.out 3).trans rfl; have hcz25_4 : w24.cell? ⟨gb169, 4, none⟩ = some (.int .i64 a0_4) := (blk_cell BK169.out 4).trans rfl; have hcz25_5 : w24.cell? ⟨gb169, 5, none⟩ = some (.int .i64 a0_5) := (blk_cell BK169.out 5).trans rfl; have hfz25_0 := blk_frozen BK169.out 0; have hfz25_1 := blk_frozen BK169.out 1; have hfz25_2 := blk_frozen BK169.out 2; have hfz25_3 := blk_frozen BK169.out 3; have hfz25_4 := blk_frozen BK169.out 4; have hfz25_5 := blk_frozen BK169.out 5))
       go_meet
       case rel => exact ⟨_, (true), (by first | rfl | (simp; done) | (simp [*]; done)), H', ⟨by first | omega | exact Nat.le_refl _⟩, ⟨by (with_reducible repeat (first | refine blk_drewN ?_ _ | refine blk_drew ?_ | refine blk_alloc ?_ _)); exact BK169.out⟩, ⟨by repeat (first | (with_reducible first | exact HB.out | apply below_alloc | apply pw_below_drewN | apply below_drew1 | refine below_set ?_ GE169.out) | exact HB.out)⟩⟩
      ·rw [if_neg c22] at H
       have c22b0 : decide (a2 < 0) = false := decide_eq_false c22
       clear c22
       have H' := Aside0.mk H
       clear H
       have hcz26_0 : w7.cell? ⟨gb169, 0, none⟩ = some (.string a0_0) := (blk_cell BK169.out 0).trans rfl
       have hcz26_1 : w7.cell? ⟨gb169, 1, none⟩ = some (.string a0_1) := (blk_cell BK169.out 1).trans rfl
       have hcz26_2 : w7.cell? ⟨gb169, 2, none⟩ = some (.int .i64 a0_2) := (blk_cell BK169.out 2).trans rfl
       have hcz26_3 : w7.cell? ⟨gb169, 3, none⟩ = some (.int .i64 a0_3) := (blk_cell BK169.out 3).trans rfl
       have hcz26_4 : w7.cell? ⟨gb169, 4, none⟩ = some (.int .i64 a0_4) := (blk_cell BK169.out 4).trans rfl
       have hcz26_5 : w7.cell? ⟨gb169, 5, none⟩ = some (.int .i64 a0_5) := (blk_cell BK169.out 5).trans rfl
       have hfz26_0 := blk_frozen BK169.out 0
       have hfz26_1 := blk_frozen BK169.out 1
       have hfz26_2 := blk_frozen BK169.out 2
       have hfz26_3 := blk_frozen BK169.out 3
       have hfz26_4 := blk_frozen BK169.out 4
       have hfz26_5 := blk_frozen BK169.out 5
       go_wp2_with (first | ((with_reducible refine gate_callee (f := 18) rfl ?_); refine goesL_ (some 18) rfl rfl Tryd.func18 (by kernel_rfl) rfl #[.agg #[.string a0_0, .string a0_1, .int .i64 a0_2, .int .i64 a0_3, .int .i64 a0_4, .int .i64 a0_5], .agg #[.string a0_1, .int .i64 a1, .int .i64 0, .string (⟨#[]⟩ : ByteArray), .int .i64 0, .int .i64 0, .int .i64 0, .slice none 0 0, .int .i64 0, .int .i64 0, .int .i64 0, .int .i64 0]] rfl (by (try simp only [List.map_toArray, List.map_cons, List.map_nil]); first | done | rfl | (simp only [List.length_drop, List.length_take]; rfl)) ?_; (refine (plenumref41_Check.calls k a0_0 a0_1 a0_2 a0_3 a0_4 a0_5 a0_1 a1 0 (⟨#[]⟩ : ByteArray) 0 0 0 _ _ ([] : List ByteArray) 0 0 0 0 t170 _ ?side99  ?side1 ?side2 A8.out).mono ?_); (case side1 => exact Kd.C_nil _ _); (case side2 => exact Nat.le_refl _); (case side99 => first | exact HG.out | exact Glob.below HG.out (by repeat (first | (with_reducible first | exact HB.out | apply below_alloc | apply pw_below_drewN | apply below_drew1 | refine below_set ?_ GE169.out) | exact HB.out))); rintro e w27 ⟨rfl, hb⟩; refine ⟨_, rfl, ?_⟩; have n0_ := Aside0.mk (blk_below (g := gb169) (o := .cells #[.string a0_0, .string a0_1, .int .i64 a0_2, .int .i64 a0_3, .int .i64 a0_4, .int .i64 a0_5] 23 (0, 0)) (by (with_reducible repeat (first | refine blk_drewN ?_ _ | refine blk_drew ?_ | refine blk_alloc ?_ _)); exact BK169.out) hb); have n1_ := Aside0.mk (below_step (by repeat (first | (with_reducible first | exact HB.out | apply below_alloc | apply pw_below_drewN | apply below_drew1 | refine below_set ?_ GE169.out) | exact HB.out)) hb); clear BK169; clear HB; have BK169 := n0_; have HB := n1_; clear n0_ n1_; (try clear hb); (try clear hb2); (try clear hk); (try clear hi); have hcz28_0 : w27.cell? ⟨gb169, 0, none⟩ = some (.string a0_0) := (blk_cell BK169.out 0).trans rfl; have hcz28_1 : w27.cell? ⟨gb169, 1, none⟩ = some (.string a0_1) := (blk_cell BK169.out 1).trans rfl; have hcz28_2 : w27.cell? ⟨gb169, 2, none⟩ = some (.int .i64 a0_2) := (blk_cell BK169.out 2).trans rfl; have hcz28_3 : w27.cell? ⟨gb169, 3, none⟩ = some (.int .i64 a0_3) := (blk_cell BK169.out 3).trans rfl; have hcz28_4 : w27.cell? ⟨gb169, 4, none⟩ = some (.int .i64 a0_4) := (blk_cell BK169.out 4).trans rfl; have hcz28_5 : w27.cell? ⟨gb169, 5, none⟩ = some (.int .i64 a0_5) := (blk_cell BK169.out 5).trans rfl; have hfz28_0 := blk_frozen BK169.out 0; have hfz28_1 := blk_frozen BK169.out 1; have hfz28_2 := blk_frozen BK169.out 2; have hfz28_3 := blk_frozen BK169.out 3; have hfz28_4 := blk_frozen BK169.out 4; have hfz28_5 := blk_frozen BK169.out 5))
       go_meet
       case rel => exact ⟨_, (decide (a2 > 1000000)), (by first | rfl | (simp; done) | (simp [*]; done)), H', ⟨by first | omega | exact Nat.le_refl _⟩, ⟨by (with_reducible repeat (first | refine blk_drewN ?_ _ | refine blk_drew ?_ | refine blk_alloc ?_ _)); exact BK169.out⟩, ⟨by repeat (first | (with_reducible first | exact HB.out | apply below_alloc | apply pw_below_drewN | apply below_drew1 | refine below_set ?_ GE169.out) | exact HB.out)⟩⟩
  ·rw [if_neg c9] at H
   have c9b0 : (t170 == 0) = false := beq_eq_false_iff_ne.mpr c9
   have c9b1 : (t170 != 0) = true := bne_iff_ne.mpr c9
   (first | rw [c9b0] | (simp only [i64_w, i32_w]; rw [c9b0]) | skip)
   have H' := Aside0.mk H
   clear H
   have hcz29_0 : w7.cell? ⟨gb169, 0, none⟩ = some (.string a0_0) := (blk_cell BK169.out 0).trans rfl
   have hcz29_1 : w7.cell? ⟨gb169, 1, none⟩ = some (.string a0_1) := (blk_cell BK169.out 1).trans rfl
   have hcz29_2 : w7.cell? ⟨gb169, 2, none⟩ = some (.int .i64 a0_2) := (blk_cell BK169.out 2).trans rfl
   have hcz29_3 : w7.cell? ⟨gb169, 3, none⟩ = some (.int .i64 a0_3) := (blk_cell BK169.out 3).trans rfl
   have hcz29_4 : w7.cell? ⟨gb169, 4, none⟩ = some (.int .i64 a0_4) := (blk_cell BK169.out 4).trans rfl
   have hcz29_5 : w7.cell? ⟨gb169, 5, none⟩ = some (.int .i64 a0_5) := (blk_cell BK169.out 5).trans rfl
   have hfz29_0 := blk_frozen BK169.out 0
   have hfz29_1 := blk_frozen BK169.out 1
   have hfz29_2 := blk_frozen BK169.out 2
   have hfz29_3 := blk_frozen BK169.out 3
   have hfz29_4 := blk_frozen BK169.out 4
   have hfz29_5 := blk_frozen BK169.out 5
   go_wp2_with (first | ((with_reducible refine gate_callee (f := 18) rfl ?_); refine goesL_ (some 18) rfl rfl Tryd.func18 (by kernel_rfl) rfl #[.agg #[.string a0_0, .string a0_1, .int .i64 a0_2, .int .i64 a0_3, .int .i64 a0_4, .int .i64 a0_5], .agg #[.string a0_1, .int .i64 a1, .int .i64 0, .string (⟨#[]⟩ : ByteArray), .int .i64 0, .int .i64 0, .int .i64 0, .slice none 0 0, .int .i64 0, .int .i64 0, .int .i64 0, .int .i64 0]] rfl (by (try simp only [List.map_toArray, List.map_cons, List.map_nil]); first | done | rfl | (simp only [List.length_drop, List.length_take]; rfl)) ?_; (refine (plenumref41_Check.calls k a0_0 a0_1 a0_2 a0_3 a0_4 a0_5 a0_1 a1 0 (⟨#[]⟩ : ByteArray) 0 0 0 _ _ ([] : List ByteArray) 0 0 0 0 t170 _ ?side99  ?side1 ?side2 A8.out).mono ?_); (case side1 => exact Kd.C_nil _ _); (case side2 => exact Nat.le_refl _); (case side99 => first | exact HG.out | exact Glob.below HG.out (by repeat (first | (with_reducible first | exact HB.out | apply below_alloc | apply pw_below_drewN | apply below_drew1 | refine below_set ?_ GE169.out) | exact HB.out))); rintro e w30 ⟨rfl, hb⟩; refine ⟨_, rfl, ?_⟩; have n0_ := Aside0.mk (blk_below (g := gb169) (o := .cells #[.string a0_0, .string a0_1, .int .i64 a0_2, .int .i64 a0_3, .int .i64 a0_4, .int .i64 a0_5] 23 (0, 0)) (by (with_reducible repeat (first | refine blk_drewN ?_ _ | refine blk_drew ?_ | refine blk_alloc ?_ _)); exact BK169.out) hb); have n1_ := Aside0.mk (below_step (by repeat (first | (with_reducible first | exact HB.out | apply below_alloc | apply pw_below_drewN | apply below_drew1 | refine below_set ?_ GE169.out) | exact HB.out)) hb); clear BK169; clear HB; have BK169 := n0_; have HB := n1_; clear n0_ n1_; (try clear hb); (try clear hb2); (try clear hk); (try clear hi)))
   go_meet
   case rel => exact ⟨_, (true), (by first | rfl | (simp; done) | (simp [*]; done)), H', ⟨by first | omega | exact Nat.le_refl _⟩, ⟨by (with_reducible repeat (first | refine blk_drewN ?_ _ | refine blk_drew ?_ | refine blk_alloc ?_ _)); exact BK169.out⟩, ⟨by repeat (first | (with_reducible first | exact HB.out | apply below_alloc | apply pw_below_drewN | apply below_drew1 | refine below_set ?_ GE169.out) | exact HB.out)⟩⟩
 case rest =>
  clear HC6
  try clear c1
  try clear c2
  try clear p2
  try clear c3
  try clear c9
  try clear c9b0
  try clear c9b1
  try clear c10
  try clear c10b0
  try clear c10b1
  try clear c14
  try clear c14b0
  try clear c14b1
  try clear c18
  try clear c18b0
  try clear c22
  try clear c22b0
  try clear hcz11_0
  try clear hcz11_1
  try clear hcz11_2
  try clear hcz11_3
  try clear hcz11_4
  try clear hcz11_5
  try clear hcz13_0
  try clear hcz13_1
  try clear hcz13_2
  try clear hcz13_3
  try clear hcz13_4
  try clear hcz13_5
  try clear hcz15_0
  try clear hcz15_1
  try clear hcz15_2
  try clear hcz15_3
  try clear hcz15_4
  try clear hcz15_5
  try clear hcz17_0
  try clear hcz17_1
  try clear hcz17_2
  try clear hcz17_3
  try clear hcz17_4
  try clear hcz17_5
  try clear hcz19_0
  try clear hcz19_1
  try clear hcz19_2
  try clear hcz19_3
  try clear hcz19_4
  try clear hcz19_5
  try clear hcz21_0
  try clear hcz21_1
  try clear hcz21_2
  try clear hcz21_3
  try clear hcz21_4
  try clear hcz21_5
  try clear hcz23_0
  try clear hcz23_1
  try clear hcz23_2
  try clear hcz23_3
  try clear hcz23_4
  try clear hcz23_5
  try clear hcz25_0
  try clear hcz25_1
  try clear hcz25_2
  try clear hcz25_3
  try clear hcz25_4
  try clear hcz25_5
  try clear hcz26_0
  try clear hcz26_1
  try clear hcz26_2
  try clear hcz26_3
  try clear hcz26_4
  try clear hcz26_5
  try clear hcz28_0
  try clear hcz28_1
  try clear hcz28_2
  try clear hcz28_3
  try clear hcz28_4
  try clear hcz28_5
  try clear hcz29_0
  try clear hcz29_1
  try clear hcz29_2
  try clear hcz29_3
  try clear hcz29_4
  try clear hcz29_5
  try clear hfz11_0
  try clear hfz11_1
  try clear hfz11_2
  try clear hfz11_3
  try clear hfz11_4
  try clear hfz11_5
  try clear hfz13_0
  try clear hfz13_1
  try clear hfz13_2
  try clear hfz13_3
  try clear hfz13_4
  try clear hfz13_5
  try clear hfz15_0
  try clear hfz15_1
  try clear hfz15_2
  try clear hfz15_3
  try clear hfz15_4
  try clear hfz15_5
  try clear hfz17_0
  try clear hfz17_1
  try clear hfz17_2
  try clear hfz17_3
  try clear hfz17_4
  try clear hfz17_5
  try clear hfz19_0
  try clear hfz19_1
  try clear hfz19_2
  try clear hfz19_3
  try clear hfz19_4
  try clear hfz19_5
  try clear hfz21_0
  try clear hfz21_1
  try clear hfz21_2
  try clear hfz21_3
  try clear hfz21_4
  try clear hfz21_5
  try clear hfz23_0
  try clear hfz23_1
  try clear hfz23_2
  try clear hfz23_3
  try clear hfz23_4
  try clear hfz23_5
  try clear hfz25_0
  try clear hfz25_1
  try clear hfz25_2
  try clear hfz25_3
  try clear hfz25_4
  try clear hfz25_5
  try clear hfz26_0
  try clear hfz26_1
  try clear hfz26_2
  try clear hfz26_3
  try clear hfz26_4
  try clear hfz26_5
  try clear hfz28_0
  try clear hfz28_1
  try clear hfz28_2
  try clear hfz28_3
  try clear hfz28_4
  try clear hfz28_5
  try clear hfz29_0
  try clear hfz29_1
  try clear hfz29_2
  try clear hfz29_3
  try clear hfz29_4
  try clear hfz29_5
  obtain ⟨kq, x45_5, rfl, HA, HJ5, BK169, HB⟩ := hcut
  cases kq with
  | zero => exact absurd HA.out (by simp [plenumref41_Fit.j0])
  | succ kj5 =>
   have H := HA.out
   clear HA
   simp only [plenumref41_Fit.j0] at H
   by_cases c31 : x45_5 = true
   ·subst c31
    have H1 : (some false) = some r := by rw [if_pos rfl] at H; exact H
    clear H
    have H := H1
    clear H1
    obtain rfl := Option.some.inj H
    go_wp2
    go_ret
    exact ⟨by first | rfl | (simp [errW_none, errW_some] <;> rfl) | (simp [*, errW_none, errW_some] <;> rfl), by repeat (first | (with_reducible first | exact HB.out | apply below_alloc | apply pw_below_drewN | apply below_drew1 | refine below_set ?_ GE169.out) | exact HB.out)⟩
   ·replace c31 := Bool.eq_false_iff.mpr c31
    subst c31
    have H1 : (plenumref41_Fit.l0 kj5 a2 l3 0 a0_0 a0_1 a0_2 a0_3 a0_4 a0_5) = some r := by rw [if_neg (show ¬ (false = true) by decide)] at H; exact H
    clear H
    have H := H1
    clear H1
    have H' := Aside0.mk H
    clear H
    go_wp2
    go_loopg [11] kj5 (fun kq v11 w' => ∃ (x11_2 : Int), v11 = .int .i64 x11_2 ∧ Aside0 (plenumref41_Fit.l0 kq a2 l3 x11_2 a0_0 a0_1 a0_2 a0_3 a0_4 a0_5 = some r) ∧ Aside0 (kq ≤ kj5) ∧ Aside0 (w'.heap[gb169]? = some (.cells #[.string a0_0, .string a0_1, .int .i64 a0_2, .int .i64 a0_3, .int .i64 a0_4, .int .i64 a0_5] 23 (0, 0))) ∧ Aside0 (Below w.heap.size w w'))
    case atStart => exact ⟨(0), (by first | rfl | (simp; done) | (simp [*]; done)), H', ⟨Nat.le_refl _⟩, ⟨by (with_reducible repeat (first | refine blk_drewN ?_ _ | refine blk_drew ?_ | refine blk_alloc ?_ _)); exact BK169.out⟩, ⟨by repeat (first | (with_reducible first | exact HB.out | apply below_alloc | apply pw_below_drewN | apply below_drew1 | refine below_set ?_ GE169.out) | exact HB.out)⟩⟩
    case round =>
     clear H'
     try clear c1
     try clear c2
     try clear p2
     try clear c3
     try clear c9
     try clear c9b0
     try clear c9b1
     try clear c10
     try clear c10b0
     try clear c10b1
     try clear c14
     try clear c14b0
     try clear c14b1
     try clear c18
     try clear c18b0
     try clear c22
     try clear c22b0
     try clear c31
     try clear hcz11_0
     try clear hcz11_1
     try clear hcz11_2
     try clear hcz11_3
     try clear hcz11_4
     try clear hcz11_5
     try clear hcz13_0
     try clear hcz13_1
     try clear hcz13_2
     try clear hcz13_3
     try clear hcz13_4
     try clear hcz13_5
     try clear hcz15_0
     try clear hcz15_1
     try clear hcz15_2
     try clear hcz15_3
     try clear hcz15_4
     try clear hcz15_5
     try clear hcz17_0
     try clear hcz17_1
     try clear hcz17_2
     try clear hcz17_3
     try clear hcz17_4
     try clear hcz17_5
     try clear hcz19_0
     try clear hcz19_1
     try clear hcz19_2
     try clear hcz19_3
     try clear hcz19_4
     try clear hcz19_5
     try clear hcz21_0
     try clear hcz21_1
     try clear hcz21_2
     try clear hcz21_3
     try clear hcz21_4
     try clear hcz21_5
     try clear hcz23_0
     try clear hcz23_1
     try clear hcz23_2
     try clear hcz23_3
     try clear hcz23_4
     try clear hcz23_5
     try clear hcz25_0
     try clear hcz25_1
     try clear hcz25_2
     try clear hcz25_3
     try clear hcz25_4
     try clear hcz25_5
     try clear hcz26_0
     try clear hcz26_1
     try clear hcz26_2
     try clear hcz26_3
     try clear hcz26_4
     try clear hcz26_5
     try clear hcz28_0
     try clear hcz28_1
     try clear hcz28_2
     try clear hcz28_3
     try clear hcz28_4
     try clear hcz28_5
     try clear hcz29_0
     try clear hcz29_1
     try clear hcz29_2
     try clear hcz29_3
     try clear hcz29_4
     try clear hcz29_5
     try clear hfz11_0
     try clear hfz11_1
     try clear hfz11_2
     try clear hfz11_3
     try clear hfz11_4
     try clear hfz11_5
     try clear hfz13_0
     try clear hfz13_1
     try clear hfz13_2
     try clear hfz13_3
     try clear hfz13_4
     try clear hfz13_5
     try clear hfz15_0
     try clear hfz15_1
     try clear hfz15_2
     try clear hfz15_3
     try clear hfz15_4
     try clear hfz15_5
     try clear hfz17_0
     try clear hfz17_1
     try clear hfz17_2
     try clear hfz17_3
     try clear hfz17_4
     try clear hfz17_5
     try clear hfz19_0
     try clear hfz19_1
     try clear hfz19_2
     try clear hfz19_3
     try clear hfz19_4
     try clear hfz19_5
     try clear hfz21_0
     try clear hfz21_1
     try clear hfz21_2
     try clear hfz21_3
     try clear hfz21_4
     try clear hfz21_5
     try clear hfz23_0
     try clear hfz23_1
     try clear hfz23_2
     try clear hfz23_3
     try clear hfz23_4
     try clear hfz23_5
     try clear hfz25_0
     try clear hfz25_1
     try clear hfz25_2
     try clear hfz25_3
     try clear hfz25_4
     try clear hfz25_5
     try clear hfz26_0
     try clear hfz26_1
     try clear hfz26_2
     try clear hfz26_3
     try clear hfz26_4
     try clear hfz26_5
     try clear hfz28_0
     try clear hfz28_1
     try clear hfz28_2
     try clear hfz28_3
     try clear hfz28_4
     try clear hfz28_5
     try clear hfz29_0
     try clear hfz29_1
     try clear hfz29_2
     try clear hfz29_3
     try clear hfz29_4
     try clear hfz29_5
     try clear p2
     obtain ⟨x11_2, rfl, HA, HK2, BK169, HB⟩ := hrel
     cases gk with
     | zero => exact absurd HA.out (by simp [plenumref41_Fit.l0])
     | succ k2 =>
      have H := HA.out
      clear HA
      simp only [plenumref41_Fit.l0] at H
      by_cases c32 : x11_2 < (l3.length : Int)
      ·rw [if_pos c32] at H
       have c32b0 : decide (x11_2 < (l3.length : Int)) = true := decide_eq_true c32
       clear c32
       by_cases c33 : 0 ≤ x11_2
       ·rw [if_pos c33] at H
        have c33b0 : decide (0 ≤ x11_2) = true := decide_eq_true c33
        clear c33
        have HC34 := Aside0.mk H
        clear H
        have p171 : 0 ≤ (x11_2 : Int) := of_decide_eq_true (by first | (with_reducible assumption) | assumption)
        have q171 : x11_2 < (l3.length : Int) := of_decide_eq_true (by first | (with_reducible assumption) | assumption)
        obtain ⟨ad171, e171, hx171_0, hx171_1, hx171_2, hx171_3, hx171_4⟩ := at_T34 HR3.out x11_2 p171 q171
        cases e171
        replace hx171_0 := (HB.out.cell (World.block_lt_of_cell? w _ hx171_0)).trans hx171_0
        replace hx171_1 := (HB.out.cell (World.block_lt_of_cell? w _ hx171_1)).trans hx171_1
        replace hx171_2 := (HB.out.cell (World.block_lt_of_cell? w _ hx171_2)).trans hx171_2
        replace hx171_3 := (HB.out.cell (World.block_lt_of_cell? w _ hx171_3)).trans hx171_3
        replace hx171_4 := (HB.out.cell (World.block_lt_of_cell? w _ hx171_4)).trans hx171_4
        replace p171 := eq_true p171
        replace q171 := eq_true q171
        go_upto_region 7 with (first | ((with_reducible refine gate_dst (N := 12) rfl ?_); (try (refine gate_guard (by rfl) ?_; dsimp only)); refine box_event ?hg (N := 12) ?hd (cs := #[.int .i64 0, .int .i64 0, .int .i64 0, .int .i64 0]) (t := 32) ?hr ?_; (case hd => rfl); (case hg => rfl); (case hr => first | (go_simp; done) | (go_simp; rfl)); intro gb172 hg w35 hbox hb; have n0_ := Aside0.mk (blk_below (g := gb169) (o := .cells #[.string a0_0, .string a0_1, .int .i64 a0_2, .int .i64 a0_3, .int .i64 a0_4, .int .i64 a0_5] 23 (0, 0)) (by (with_reducible repeat (first | refine blk_drewN ?_ _ | refine blk_drew ?_ | refine blk_alloc ?_ _)); exact BK169.out) hb); have n1_ := Aside0.mk (below_step (by repeat (first | (with_reducible first | exact HB.out | apply below_alloc | apply pw_below_drewN | apply below_drew1 | refine below_set ?_ GE169.out) | exact HB.out)) hb); have n2_ := Aside0.mk (hbox); have n3_ := Aside0.mk ((by rw [hg]; exact (below_size (by repeat (first | (with_reducible first | exact HB.out | apply below_alloc | apply pw_below_drewN | apply below_drew1 | refine below_set ?_ GE169.out) | exact HB.out))) : w.heap.size ≤ gb172)); have n4_ := Aside0.mk ((by rw [hg]; exact (below_size (by repeat (first | (with_reducible first | exact HB.out | apply below_alloc | apply pw_below_drewN | apply below_drew1 | refine below_set ?_ GE169.out) | exact HB.out))) : w.heap.size ≤ gb172)); have n5_ := Aside0.mk ((by rw [hg]; exact Nat.ne_of_lt (blk_lt (g := gb169) (o := .cells #[.string a0_0, .string a0_1, .int .i64 a0_2, .int .i64 a0_3, .int .i64 a0_4, .int .i64 a0_5] 23 (0, 0)) (by (with_reducible repeat (first | refine blk_drewN ?_ _ | refine blk_drew ?_ | refine blk_alloc ?_ _)); exact BK169.out)) : gb169 ≠ gb172)); have n6_ := Aside0.mk ((by rw [hg]; exact Nat.ne_of_gt (blk_lt (g := gb169) (o := .cells #[.string a0_0, .string a0_1, .int .i64 a0_2, .int .i64 a0_3, .int .i64 a0_4, .int .i64 a0_5] 23 (0, 0)) (by (with_reducible repeat (first | refine blk_drewN ?_ _ | refine blk_drew ?_ | refine blk_alloc ?_ _)); exact BK169.out)) : gb172 ≠ gb169)); clear BK169; clear HB; have BK169 := n0_; have HB := n1_; have BK172 := n2_; have GW172 := n3_; have GE172 := n4_; have NB169_172 := n5_; have NB172_169 := n6_; clear n0_ n1_ n2_ n3_ n4_ n5_ n6_; clear hb hbox hg; have hnb36 := NB172_169.out; have hnc36 := NB169_172.out; have hcz37_0 : w35.cell? ⟨gb172, 0, none⟩ = some (.int .i64 0) := (blk_cell BK172.out 0).trans rfl; have hcz37_1 : w35.cell? ⟨gb172, 1, none⟩ = some (.int .i64 0) := (blk_cell BK172.out 1).trans rfl; have hcz37_2 : w35.cell? ⟨gb172, 2, none⟩ = some (.int .i64 0) := (blk_cell BK172.out 2).trans rfl; have hcz37_3 : w35.cell? ⟨gb172, 3, none⟩ = some (.int .i64 0) := (blk_cell BK172.out 3).trans rfl; have hfz37_0 := blk_frozen BK172.out 0; have hfz37_1 := blk_frozen BK172.out 1; have hfz37_2 := blk_frozen BK172.out 2; have hfz37_3 := blk_frozen BK172.out 3))
        (try simp only [Act.put, List.setIfInBounds_toArray, List.set_cons_zero, List.set_cons_succ])
        go_cut [95] (fun v95 wc => ∃ (kq : Nat) (x95_33 : Bool), v95 = .bool x95_33 ∧ Aside0 (plenumref41_Fit.j2 kq a2 l3 x11_2 x95_33 a0_0 a0_1 a0_2 a0_3 a0_4 a0_5 ((rd_T34 l3 x11_2).f1.f0.f0) ((rd_T34 l3 x11_2).f1.f0.f1) ((rd_T34 l3 x11_2).f1.f1) ((rd_T34 l3 x11_2).f1.f2) = some r) ∧ Aside0 (kq ≤ k2) ∧ Aside0 (wc.heap[gb169]? = some (.cells #[.string a0_0, .string a0_1, .int .i64 a0_2, .int .i64 a0_3, .int .i64 a0_4, .int .i64 a0_5] 23 (0, 0))) ∧ Aside0 (wc.heap[gb172]? = some (.cells #[.int .i64 ((rd_T34 l3 x11_2).f1.f0.f0), .int .i64 ((rd_T34 l3 x11_2).f1.f0.f1), .int .i64 ((rd_T34 l3 x11_2).f1.f1), .int .i64 ((rd_T34 l3 x11_2).f1.f2)] 32 (0, 0))) ∧ Aside0 (Below w.heap.size w wc))
        case first =>
         have H := HC34.out
         clear HC34
         by_cases c38 : ((rd_T34 l3 x11_2).f0) < 0
         ·rw [if_pos c38] at H
          have c38b0 : decide (((rd_T34 l3 x11_2).f0) < 0) = true := decide_eq_true c38
          clear c38
          (first | rw [c38b0] | (simp only [i64_w, i32_w]; rw [c38b0]) | skip)
          have H' := Aside0.mk H
          clear H
          have p173 : 0 ≤ (x11_2 : Int) := of_decide_eq_true (by first | (with_reducible assumption) | assumption)
          have q173 : x11_2 < (l3.length : Int) := of_decide_eq_true (by first | (with_reducible assumption) | assumption)
          obtain ⟨ad173, e173, hx173_0, hx173_1, hx173_2, hx173_3, hx173_4⟩ := at_T34 HR3.out x11_2 p173 q173
          obtain rfl : ad171 = ad173 := (by injection e173)
          have hn173_0 : ad171.block ≠ gb172 := Nat.ne_of_lt (Nat.lt_of_lt_of_le (by have := World.block_lt_of_cell? _ _ hx173_0; first | rwa [add_block] at this | exact this) GW172.out)
          have hn173_1 : ad171.block ≠ gb172 := Nat.ne_of_lt (Nat.lt_of_lt_of_le (by have := World.block_lt_of_cell? _ _ hx173_0; first | rwa [add_block] at this | exact this) GW172.out)
          have hn173_2 : ad171.block ≠ gb172 := Nat.ne_of_lt (Nat.lt_of_lt_of_le (by have := World.block_lt_of_cell? _ _ hx173_0; first | rwa [add_block] at this | exact this) GW172.out)
          have hn173_3 : ad171.block ≠ gb172 := Nat.ne_of_lt (Nat.lt_of_lt_of_le (by have := World.block_lt_of_cell? _ _ hx173_0; first | rwa [add_block] at this | exact this) GW172.out)
          replace hx173_0 := (HB.out.cell (World.block_lt_of_cell? w _ hx173_0)).trans hx173_0
          replace hx173_1 := (HB.out.cell (World.block_lt_of_cell? w _ hx173_1)).trans hx173_1
          replace hx173_2 := (HB.out.cell (World.block_lt_of_cell? w _ hx173_2)).trans hx173_2
          replace hx173_3 := (HB.out.cell (World.block_lt_of_cell? w _ hx173_3)).trans hx173_3
          replace hx173_4 := (HB.out.cell (World.block_lt_of_cell? w _ hx173_4)).trans hx173_4
          replace hx173_0 := (cell_far (p := ⟨gb172, 0, none⟩) (by first | (rw [add_block]; exact hn173_0) | (show (Addr.add _ _).block ≠ _; rw [add_block]; exact hn173_0) | exact hn173_0) (.int .i64 ((rd_T34 l3 x11_2).f1.f0.f0))).trans hx173_0
          replace hx173_1 := (cell_far (p := ⟨gb172, 0, none⟩) (by first | (rw [add_block]; exact hn173_0) | (show (Addr.add _ _).block ≠ _; rw [add_block]; exact hn173_0) | exact hn173_0) (.int .i64 ((rd_T34 l3 x11_2).f1.f0.f0))).trans hx173_1
          replace hx173_2 := (cell_far (p := ⟨gb172, 0, none⟩) (by first | (rw [add_block]; exact hn173_0) | (show (Addr.add _ _).block ≠ _; rw [add_block]; exact hn173_0) | exact hn173_0) (.int .i64 ((rd_T34 l3 x11_2).f1.f0.f0))).trans hx173_2
          replace hx173_3 := (cell_far (p := ⟨gb172, 0, none⟩) (by first | (rw [add_block]; exact hn173_0) | (show (Addr.add _ _).block ≠ _; rw [add_block]; exact hn173_0) | exact hn173_0) (.int .i64 ((rd_T34 l3 x11_2).f1.f0.f0))).trans hx173_3
          replace hx173_4 := (cell_far (p := ⟨gb172, 0, none⟩) (by first | (rw [add_block]; exact hn173_0) | (show (Addr.add _ _).block ≠ _; rw [add_block]; exact hn173_0) | exact hn173_0) (.int .i64 ((rd_T34 l3 x11_2).f1.f0.f0))).trans hx173_4
          replace hx173_0 := (cell_far (p := ⟨gb172, 1, none⟩) (by first | (rw [add_block]; exact hn173_1) | (show (Addr.add _ _).block ≠ _; rw [add_block]; exact hn173_1) | exact hn173_1) (.int .i64 ((rd_T34 l3 x11_2).f1.f0.f1))).trans hx173_0
          replace hx173_1 := (cell_far (p := ⟨gb172, 1, none⟩) (by first | (rw [add_block]; exact hn173_1) | (show (Addr.add _ _).block ≠ _; rw [add_block]; exact hn173_1) | exact hn173_1) (.int .i64 ((rd_T34 l3 x11_2).f1.f0.f1))).trans hx173_1
          replace hx173_2 := (cell_far (p := ⟨gb172, 1, none⟩) (by first | (rw [add_block]; exact hn173_1) | (show (Addr.add _ _).block ≠ _; rw [add_block]; exact hn173_1) | exact hn173_1) (.int .i64 ((rd_T34 l3 x11_2).f1.f0.f1))).trans hx173_2
          replace hx173_3 := (cell_far (p := ⟨gb172, 1, none⟩) (by first | (rw [add_block]; exact hn173_1) | (show (Addr.add _ _).block ≠ _; rw [add_block]; exact hn173_1) | exact hn173_1) (.int .i64 ((rd_T34 l3 x11_2).f1.f0.f1))).trans hx173_3
          replace hx173_4 := (cell_far (p := ⟨gb172, 1, none⟩) (by first | (rw [add_block]; exact hn173_1) | (show (Addr.add _ _).block ≠ _; rw [add_block]; exact hn173_1) | exact hn173_1) (.int .i64 ((rd_T34 l3 x11_2).f1.f0.f1))).trans hx173_4
          replace hx173_0 := (cell_far (p := ⟨gb172, 2, none⟩) (by first | (rw [add_block]; exact hn173_2) | (show (Addr.add _ _).block ≠ _; rw [add_block]; exact hn173_2) | exact hn173_2) (.int .i64 ((rd_T34 l3 x11_2).f1.f1))).trans hx173_0
          replace hx173_1 := (cell_far (p := ⟨gb172, 2, none⟩) (by first | (rw [add_block]; exact hn173_2) | (show (Addr.add _ _).block ≠ _; rw [add_block]; exact hn173_2) | exact hn173_2) (.int .i64 ((rd_T34 l3 x11_2).f1.f1))).trans hx173_1
          replace hx173_2 := (cell_far (p := ⟨gb172, 2, none⟩) (by first | (rw [add_block]; exact hn173_2) | (show (Addr.add _ _).block ≠ _; rw [add_block]; exact hn173_2) | exact hn173_2) (.int .i64 ((rd_T34 l3 x11_2).f1.f1))).trans hx173_2
          replace hx173_3 := (cell_far (p := ⟨gb172, 2, none⟩) (by first | (rw [add_block]; exact hn173_2) | (show (Addr.add _ _).block ≠ _; rw [add_block]; exact hn173_2) | exact hn173_2) (.int .i64 ((rd_T34 l3 x11_2).f1.f1))).trans hx173_3
          replace hx173_4 := (cell_far (p := ⟨gb172, 2, none⟩) (by first | (rw [add_block]; exact hn173_2) | (show (Addr.add _ _).block ≠ _; rw [add_block]; exact hn173_2) | exact hn173_2) (.int .i64 ((rd_T34 l3 x11_2).f1.f1))).trans hx173_4
          replace hx173_0 := (cell_far (p := ⟨gb172, 3, none⟩) (by first | (rw [add_block]; exact hn173_3) | (show (Addr.add _ _).block ≠ _; rw [add_block]; exact hn173_3) | exact hn173_3) (.int .i64 ((rd_T34 l3 x11_2).f1.f2))).trans hx173_0
          replace hx173_1 := (cell_far (p := ⟨gb172, 3, none⟩) (by first | (rw [add_block]; exact hn173_3) | (show (Addr.add _ _).block ≠ _; rw [add_block]; exact hn173_3) | exact hn173_3) (.int .i64 ((rd_T34 l3 x11_2).f1.f2))).trans hx173_1
          replace hx173_2 := (cell_far (p := ⟨gb172, 3, none⟩) (by first | (rw [add_block]; exact hn173_3) | (show (Addr.add _ _).block ≠ _; rw [add_block]; exact hn173_3) | exact hn173_3) (.int .i64 ((rd_T34 l3 x11_2).f1.f2))).trans hx173_2
          replace hx173_3 := (cell_far (p := ⟨gb172, 3, none⟩) (by first | (rw [add_block]; exact hn173_3) | (show (Addr.add _ _).block ≠ _; rw [add_block]; exact hn173_3) | exact hn173_3) (.int .i64 ((rd_T34 l3 x11_2).f1.f2))).trans hx173_3
          replace hx173_4 := (cell_far (p := ⟨gb172, 3, none⟩) (by first | (rw [add_block]; exact hn173_3) | (show (Addr.add _ _).block ≠ _; rw [add_block]; exact hn173_3) | exact hn173_3) (.int .i64 ((rd_T34 l3 x11_2).f1.f2))).trans hx173_4
          clear hn173_0
          clear hn173_1
          clear hn173_2
          clear hn173_3
          replace p173 := eq_true p173
          replace q173 := eq_true q173
          go_wp2
          go_meet
          case rel => exact ⟨_, (true), (by first | rfl | (simp; done) | (simp [*]; done)), H', ⟨by have := HJ5.out; have := HK2.out; first | omega | exact Nat.le_refl _⟩, ⟨by (with_reducible repeat (first | refine blk_drewN ?_ _ | refine blk_drew ?_ | refine blk_alloc ?_ _)); refine blk_far ?_ NB169_172.out _; (with_reducible repeat (first | refine blk_drewN ?_ _ | refine blk_drew ?_ | refine blk_alloc ?_ _)); refine blk_far ?_ NB169_172.out _; (with_reducible repeat (first | refine blk_drewN ?_ _ | refine blk_drew ?_ | refine blk_alloc ?_ _)); refine blk_far ?_ NB169_172.out _; (with_reducible repeat (first | refine blk_drewN ?_ _ | refine blk_drew ?_ | refine blk_alloc ?_ _)); refine blk_far ?_ NB169_172.out _; (with_reducible repeat (first | refine blk_drewN ?_ _ | refine blk_drew ?_ | refine blk_alloc ?_ _)); exact BK169.out⟩, ⟨by (with_reducible repeat (first | refine blk_drewN ?_ _ | refine blk_drew ?_ | refine blk_alloc ?_ _)); refine blk_put (cs := #[.int .i64 ((rd_T34 l3 x11_2).f1.f0.f0), .int .i64 ((rd_T34 l3 x11_2).f1.f0.f1), .int .i64 ((rd_T34 l3 x11_2).f1.f1), .int .i64 0]) ?_ 3 _ rfl; (with_reducible repeat (first | refine blk_drewN ?_ _ | refine blk_drew ?_ | refine blk_alloc ?_ _)); refine blk_put (cs := #[.int .i64 ((rd_T34 l3 x11_2).f1.f0.f0), .int .i64 ((rd_T34 l3 x11_2).f1.f0.f1), .int .i64 0, .int .i64 0]) ?_ 2 _ rfl; (with_reducible repeat (first | refine blk_drewN ?_ _ | refine blk_drew ?_ | refine blk_alloc ?_ _)); refine blk_put (cs := #[.int .i64 ((rd_T34 l3 x11_2).f1.f0.f0), .int .i64 0, .int .i64 0, .int .i64 0]) ?_ 1 _ rfl; (with_reducible repeat (first | refine blk_drewN ?_ _ | refine blk_drew ?_ | refine blk_alloc ?_ _)); refine blk_put (cs := #[.int .i64 0, .int .i64 0, .int .i64 0, .int .i64 0]) ?_ 0 _ rfl; (with_reducible repeat (first | refine blk_drewN ?_ _ | refine blk_drew ?_ | refine blk_alloc ?_ _)); exact BK172.out⟩, ⟨by repeat (first | (with_reducible first | exact HB.out | apply below_alloc | apply pw_below_drewN | apply below_drew1 | refine below_set ?_ GE169.out | refine below_set ?_ GE172.out) | exact HB.out)⟩⟩
         ·rw [if_neg c38] at H
          have c38b0 : decide (((rd_T34 l3 x11_2).f0) < 0) = false := decide_eq_false c38
          clear c38
          (first | rw [c38b0] | (simp only [i64_w, i32_w]; rw [c38b0]) | skip)
          by_cases c39 : ((rd_T34 l3 x11_2).f0) > 3
          ·rw [if_pos c39] at H
           have c39b0 : decide (3 < ((rd_T34 l3 x11_2).f0)) = true := decide_eq_true c39
           clear c39
           have H' := Aside0.mk H
           clear H
           have p173 : 0 ≤ (x11_2 : Int) := of_decide_eq_true (by first | (with_reducible assumption) | assumption)
           have q173 : x11_2 < (l3.length : Int) := of_decide_eq_true (by first | (with_reducible assumption) | assumption)
           obtain ⟨ad173, e173, hx173_0, hx173_1, hx173_2, hx173_3, hx173_4⟩ := at_T34 HR3.out x11_2 p173 q173
           obtain rfl : ad171 = ad173 := (by injection e173)
           have hn173_0 : ad171.block ≠ gb172 := Nat.ne_of_lt (Nat.lt_of_lt_of_le (by have := World.block_lt_of_cell? _ _ hx173_0; first | rwa [add_block] at this | exact this) GW172.out)
           have hn173_1 : ad171.block ≠ gb172 := Nat.ne_of_lt (Nat.lt_of_lt_of_le (by have := World.block_lt_of_cell? _ _ hx173_0; first | rwa [add_block] at this | exact this) GW172.out)
           have hn173_2 : ad171.block ≠ gb172 := Nat.ne_of_lt (Nat.lt_of_lt_of_le (by have := World.block_lt_of_cell? _ _ hx173_0; first | rwa [add_block] at this | exact this) GW172.out)
           have hn173_3 : ad171.block ≠ gb172 := Nat.ne_of_lt (Nat.lt_of_lt_of_le (by have := World.block_lt_of_cell? _ _ hx173_0; first | rwa [add_block] at this | exact this) GW172.out)
           replace hx173_0 := (HB.out.cell (World.block_lt_of_cell? w _ hx173_0)).trans hx173_0
           replace hx173_1 := (HB.out.cell (World.block_lt_of_cell? w _ hx173_1)).trans hx173_1
           replace hx173_2 := (HB.out.cell (World.block_lt_of_cell? w _ hx173_2)).trans hx173_2
           replace hx173_3 := (HB.out.cell (World.block_lt_of_cell? w _ hx173_3)).trans hx173_3
           replace hx173_4 := (HB.out.cell (World.block_lt_of_cell? w _ hx173_4)).trans hx173_4
           replace hx173_0 := (cell_far (p := ⟨gb172, 0, none⟩) (by first | (rw [add_block]; exact hn173_0) | (show (Addr.add _ _).block ≠ _; rw [add_block]; exact hn173_0) | exact hn173_0) (.int .i64 ((rd_T34 l3 x11_2).f1.f0.f0))).trans hx173_0
           replace hx173_1 := (cell_far (p := ⟨gb172, 0, none⟩) (by first | (rw [add_block]; exact hn173_0) | (show (Addr.add _ _).block ≠ _; rw [add_block]; exact hn173_0) | exact hn173_0) (.int .i64 ((rd_T34 l3 x11_2).f1.f0.f0))).trans hx173_1
           replace hx173_2 := (cell_far (p := ⟨gb172, 0, none⟩) (by first | (rw [add_block]; exact hn173_0) | (show (Addr.add _ _).block ≠ _; rw [add_block]; exact hn173_0) | exact hn173_0) (.int .i64 ((rd_T34 l3 x11_2).f1.f0.f0))).trans hx173_2
           replace hx173_3 := (cell_far (p := ⟨gb172, 0, none⟩) (by first | (rw [add_block]; exact hn173_0) | (show (Addr.add _ _).block ≠ _; rw [add_block]; exact hn173_0) | exact hn173_0) (.int .i64 ((rd_T34 l3 x11_2).f1.f0.f0))).trans hx173_3
           replace hx173_4 := (cell_far (p := ⟨gb172, 0, none⟩) (by first | (rw [add_block]; exact hn173_0) | (show (Addr.add _ _).block ≠ _; rw [add_block]; exact hn173_0) | exact hn173_0) (.int .i64 ((rd_T34 l3 x11_2).f1.f0.f0))).trans hx173_4
           replace hx173_0 := (cell_far (p := ⟨gb172, 1, none⟩) (by first | (rw [add_block]; exact hn173_1) | (show (Addr.add _ _).block ≠ _; rw [add_block]; exact hn173_1) | exact hn173_1) (.int .i64 ((rd_T34 l3 x11_2).f1.f0.f1))).trans hx173_0
           replace hx173_1 := (cell_far (p := ⟨gb172, 1, none⟩) (by first | (rw [add_block]; exact hn173_1) | (show (Addr.add _ _).block ≠ _; rw [add_block]; exact hn173_1) | exact hn173_1) (.int .i64 ((rd_T34 l3 x11_2).f1.f0.f1))).trans hx173_1
           replace hx173_2 := (cell_far (p := ⟨gb172, 1, none⟩) (by first | (rw [add_block]; exact hn173_1) | (show (Addr.add _ _).block ≠ _; rw [add_block]; exact hn173_1) | exact hn173_1) (.int .i64 ((rd_T34 l3 x11_2).f1.f0.f1))).trans hx173_2
           replace hx173_3 := (cell_far (p := ⟨gb172, 1, none⟩) (by first | (rw [add_block]; exact hn173_1) | (show (Addr.add _ _).block ≠ _; rw [add_block]; exact hn173_1) | exact hn173_1) (.int .i64 ((rd_T34 l3 x11_2).f1.f0.f1))).trans hx173_3
           replace hx173_4 := (cell_far (p := ⟨gb172, 1, none⟩) (by first | (rw [add_block]; exact hn173_1) | (show (Addr.add _ _).block ≠ _; rw [add_block]; exact hn173_1) | exact hn173_1) (.int .i64 ((rd_T34 l3 x11_2).f1.f0.f1))).trans hx173_4
           replace hx173_0 := (cell_far (p := ⟨gb172, 2, none⟩) (by first | (rw [add_block]; exact hn173_2) | (show (Addr.add _ _).block ≠ _; rw [add_block]; exact hn173_2) | exact hn173_2) (.int .i64 ((rd_T34 l3 x11_2).f1.f1))).trans hx173_0
           replace hx173_1 := (cell_far (p := ⟨gb172, 2, none⟩) (by first | (rw [add_block]; exact hn173_2) | (show (Addr.add _ _).block ≠ _; rw [add_block]; exact hn173_2) | exact hn173_2) (.int .i64 ((rd_T34 l3 x11_2).f1.f1))).trans hx173_1
           replace hx173_2 := (cell_far (p := ⟨gb172, 2, none⟩) (by first | (rw [add_block]; exact hn173_2) | (show (Addr.add _ _).block ≠ _; rw [add_block]; exact hn173_2) | exact hn173_2) (.int .i64 ((rd_T34 l3 x11_2).f1.f1))).trans hx173_2
           replace hx173_3 := (cell_far (p := ⟨gb172, 2, none⟩) (by first | (rw [add_block]; exact hn173_2) | (show (Addr.add _ _).block ≠ _; rw [add_block]; exact hn173_2) | exact hn173_2) (.int .i64 ((rd_T34 l3 x11_2).f1.f1))).trans hx173_3
           replace hx173_4 := (cell_far (p := ⟨gb172, 2, none⟩) (by first | (rw [add_block]; exact hn173_2) | (show (Addr.add _ _).block ≠ _; rw [add_block]; exact hn173_2) | exact hn173_2) (.int .i64 ((rd_T34 l3 x11_2).f1.f1))).trans hx173_4
           replace hx173_0 := (cell_far (p := ⟨gb172, 3, none⟩) (by first | (rw [add_block]; exact hn173_3) | (show (Addr.add _ _).block ≠ _; rw [add_block]; exact hn173_3) | exact hn173_3) (.int .i64 ((rd_T34 l3 x11_2).f1.f2))).trans hx173_0
           replace hx173_1 := (cell_far (p := ⟨gb172, 3, none⟩) (by first | (rw [add_block]; exact hn173_3) | (show (Addr.add _ _).block ≠ _; rw [add_block]; exact hn173_3) | exact hn173_3) (.int .i64 ((rd_T34 l3 x11_2).f1.f2))).trans hx173_1
           replace hx173_2 := (cell_far (p := ⟨gb172, 3, none⟩) (by first | (rw [add_block]; exact hn173_3) | (show (Addr.add _ _).block ≠ _; rw [add_block]; exact hn173_3) | exact hn173_3) (.int .i64 ((rd_T34 l3 x11_2).f1.f2))).trans hx173_2
           replace hx173_3 := (cell_far (p := ⟨gb172, 3, none⟩) (by first | (rw [add_block]; exact hn173_3) | (show (Addr.add _ _).block ≠ _; rw [add_block]; exact hn173_3) | exact hn173_3) (.int .i64 ((rd_T34 l3 x11_2).f1.f2))).trans hx173_3
           replace hx173_4 := (cell_far (p := ⟨gb172, 3, none⟩) (by first | (rw [add_block]; exact hn173_3) | (show (Addr.add _ _).block ≠ _; rw [add_block]; exact hn173_3) | exact hn173_3) (.int .i64 ((rd_T34 l3 x11_2).f1.f2))).trans hx173_4
           clear hn173_0
           clear hn173_1
           clear hn173_2
           clear hn173_3
           replace p173 := eq_true p173
           replace q173 := eq_true q173
           have p174 : 0 ≤ (x11_2 : Int) := of_decide_eq_true (by first | (with_reducible assumption) | assumption)
           have q174 : x11_2 < (l3.length : Int) := of_decide_eq_true (by first | (with_reducible assumption) | assumption)
           obtain ⟨ad174, e174, hx174_0, hx174_1, hx174_2, hx174_3, hx174_4⟩ := at_T34 HR3.out x11_2 p174 q174
           obtain rfl : ad171 = ad174 := (by injection e174)
           have hn174_0 : ad171.block ≠ gb172 := Nat.ne_of_lt (Nat.lt_of_lt_of_le (by have := World.block_lt_of_cell? _ _ hx174_0; first | rwa [add_block] at this | exact this) GW172.out)
           have hn174_1 : ad171.block ≠ gb172 := Nat.ne_of_lt (Nat.lt_of_lt_of_le (by have := World.block_lt_of_cell? _ _ hx174_0; first | rwa [add_block] at this | exact this) GW172.out)
           have hn174_2 : ad171.block ≠ gb172 := Nat.ne_of_lt (Nat.lt_of_lt_of_le (by have := World.block_lt_of_cell? _ _ hx174_0; first | rwa [add_block] at this | exact this) GW172.out)
           have hn174_3 : ad171.block ≠ gb172 := Nat.ne_of_lt (Nat.lt_of_lt_of_le (by have := World.block_lt_of_cell? _ _ hx174_0; first | rwa [add_block] at this | exact this) GW172.out)
           replace hx174_0 := (HB.out.cell (World.block_lt_of_cell? w _ hx174_0)).trans hx174_0
           replace hx174_1 := (HB.out.cell (World.block_lt_of_cell? w _ hx174_1)).trans hx174_1
           replace hx174_2 := (HB.out.cell (World.block_lt_of_cell? w _ hx174_2)).trans hx174_2
           replace hx174_3 := (HB.out.cell (World.block_lt_of_cell? w _ hx174_3)).trans hx174_3
           replace hx174_4 := (HB.out.cell (World.block_lt_of_cell? w _ hx174_4)).trans hx174_4
           replace hx174_0 := (cell_far (p := ⟨gb172, 0, none⟩) (by first | (rw [add_block]; exact hn174_0) | (show (Addr.add _ _).block ≠ _; rw [add_block]; exact hn174_0) | exact hn174_0) (.int .i64 ((rd_T34 l3 x11_2).f1.f0.f0))).trans hx174_0
           replace hx174_1 := (cell_far (p := ⟨gb172, 0, none⟩) (by first | (rw [add_block]; exact hn174_0) | (show (Addr.add _ _).block ≠ _; rw [add_block]; exact hn174_0) | exact hn174_0) (.int .i64 ((rd_T34 l3 x11_2).f1.f0.f0))).trans hx174_1
           replace hx174_2 := (cell_far (p := ⟨gb172, 0, none⟩) (by first | (rw [add_block]; exact hn174_0) | (show (Addr.add _ _).block ≠ _; rw [add_block]; exact hn174_0) | exact hn174_0) (.int .i64 ((rd_T34 l3 x11_2).f1.f0.f0))).trans hx174_2
           replace hx174_3 := (cell_far (p := ⟨gb172, 0, none⟩) (by first | (rw [add_block]; exact hn174_0) | (show (Addr.add _ _).block ≠ _; rw [add_block]; exact hn174_0) | exact hn174_0) (.int .i64 ((rd_T34 l3 x11_2).f1.f0.f0))).trans hx174_3
           replace hx174_4 := (cell_far (p := ⟨gb172, 0, none⟩) (by first | (rw [add_block]; exact hn174_0) | (show (Addr.add _ _).block ≠ _; rw [add_block]; exact hn174_0) | exact hn174_0) (.int .i64 ((rd_T34 l3 x11_2).f1.f0.f0))).trans hx174_4
           replace hx174_0 := (cell_far (p := ⟨gb172, 1, none⟩) (by first | (rw [add_block]; exact hn174_1) | (show (Addr.add _ _).block ≠ _; rw [add_block]; exact hn174_1) | exact hn174_1) (.int .i64 ((rd_T34 l3 x11_2).f1.f0.f1))).trans hx174_0
           replace hx174_1 := (cell_far (p := ⟨gb172, 1, none⟩) (by first | (rw [add_block]; exact hn174_1) | (show (Addr.add _ _).block ≠ _; rw [add_block]; exact hn174_1) | exact hn174_1) (.int .i64 ((rd_T34 l3 x11_2).f1.f0.f1))).trans hx174_1
           replace hx174_2 := (cell_far (p := ⟨gb172, 1, none⟩) (by first | (rw [add_block]; exact hn174_1) | (show (Addr.add _ _).block ≠ _; rw [add_block]; exact hn174_1) | exact hn174_1) (.int .i64 ((rd_T34 l3 x11_2).f1.f0.f1))).trans hx174_2
           replace hx174_3 := (cell_far (p := ⟨gb172, 1, none⟩) (by first | (rw [add_block]; exact hn174_1) | (show (Addr.add _ _).block ≠ _; rw [add_block]; exact hn174_1) | exact hn174_1) (.int .i64 ((rd_T34 l3 x11_2).f1.f0.f1))).trans hx174_3
           replace hx174_4 := (cell_far (p := ⟨gb172, 1, none⟩) (by first | (rw [add_block]; exact hn174_1) | (show (Addr.add _ _).block ≠ _; rw [add_block]; exact hn174_1) | exact hn174_1) (.int .i64 ((rd_T34 l3 x11_2).f1.f0.f1))).trans hx174_4
           replace hx174_0 := (cell_far (p := ⟨gb172, 2, none⟩) (by first | (rw [add_block]; exact hn174_2) | (show (Addr.add _ _).block ≠ _; rw [add_block]; exact hn174_2) | exact hn174_2) (.int .i64 ((rd_T34 l3 x11_2).f1.f1))).trans hx174_0
           replace hx174_1 := (cell_far (p := ⟨gb172, 2, none⟩) (by first | (rw [add_block]; exact hn174_2) | (show (Addr.add _ _).block ≠ _; rw [add_block]; exact hn174_2) | exact hn174_2) (.int .i64 ((rd_T34 l3 x11_2).f1.f1))).trans hx174_1
           replace hx174_2 := (cell_far (p := ⟨gb172, 2, none⟩) (by first | (rw [add_block]; exact hn174_2) | (show (Addr.add _ _).block ≠ _; rw [add_block]; exact hn174_2) | exact hn174_2) (.int .i64 ((rd_T34 l3 x11_2).f1.f1))).trans hx174_2
           replace hx174_3 := (cell_far (p := ⟨gb172, 2, none⟩) (by first | (rw [add_block]; exact hn174_2) | (show (Addr.add _ _).block ≠ _; rw [add_block]; exact hn174_2) | exact hn174_2) (.int .i64 ((rd_T34 l3 x11_2).f1.f1))).trans hx174_3
           replace hx174_4 := (cell_far (p := ⟨gb172, 2, none⟩) (by first | (rw [add_block]; exact hn174_2) | (show (Addr.add _ _).block ≠ _; rw [add_block]; exact hn174_2) | exact hn174_2) (.int .i64 ((rd_T34 l3 x11_2).f1.f1))).trans hx174_4
           replace hx174_0 := (cell_far (p := ⟨gb172, 3, none⟩) (by first | (rw [add_block]; exact hn174_3) | (show (Addr.add _ _).block ≠ _; rw [add_block]; exact hn174_3) | exact hn174_3) (.int .i64 ((rd_T34 l3 x11_2).f1.f2))).trans hx174_0
           replace hx174_1 := (cell_far (p := ⟨gb172, 3, none⟩) (by first | (rw [add_block]; exact hn174_3) | (show (Addr.add _ _).block ≠ _; rw [add_block]; exact hn174_3) | exact hn174_3) (.int .i64 ((rd_T34 l3 x11_2).f1.f2))).trans hx174_1
           replace hx174_2 := (cell_far (p := ⟨gb172, 3, none⟩) (by first | (rw [add_block]; exact hn174_3) | (show (Addr.add _ _).block ≠ _; rw [add_block]; exact hn174_3) | exact hn174_3) (.int .i64 ((rd_T34 l3 x11_2).f1.f2))).trans hx174_2
           replace hx174_3 := (cell_far (p := ⟨gb172, 3, none⟩) (by first | (rw [add_block]; exact hn174_3) | (show (Addr.add _ _).block ≠ _; rw [add_block]; exact hn174_3) | exact hn174_3) (.int .i64 ((rd_T34 l3 x11_2).f1.f2))).trans hx174_3
           replace hx174_4 := (cell_far (p := ⟨gb172, 3, none⟩) (by first | (rw [add_block]; exact hn174_3) | (show (Addr.add _ _).block ≠ _; rw [add_block]; exact hn174_3) | exact hn174_3) (.int .i64 ((rd_T34 l3 x11_2).f1.f2))).trans hx174_4
           clear hn174_0
           clear hn174_1
           clear hn174_2
           clear hn174_3
           replace p174 := eq_true p174
           replace q174 := eq_true q174
           go_wp2
           go_meet
           case rel => exact ⟨_, (true), (by first | rfl | (simp; done) | (simp [*]; done)), H', ⟨by have := HJ5.out; have := HK2.out; first | omega | exact Nat.le_refl _⟩, ⟨by (with_reducible repeat (first | refine blk_drewN ?_ _ | refine blk_drew ?_ | refine blk_alloc ?_ _)); refine blk_far ?_ NB169_172.out _; (with_reducible repeat (first | refine blk_drewN ?_ _ | refine blk_drew ?_ | refine blk_alloc ?_ _)); refine blk_far ?_ NB169_172.out _; (with_reducible repeat (first | refine blk_drewN ?_ _ | refine blk_drew ?_ | refine blk_alloc ?_ _)); refine blk_far ?_ NB169_172.out _; (with_reducible repeat (first | refine blk_drewN ?_ _ | refine blk_drew ?_ | refine blk_alloc ?_ _)); refine blk_far ?_ NB169_172.out _; (with_reducible repeat (first | refine blk_drewN ?_ _ | refine blk_drew ?_ | refine blk_alloc ?_ _)); exact BK169.out⟩, ⟨by (with_reducible repeat (first | refine blk_drewN ?_ _ | refine blk_drew ?_ | refine blk_alloc ?_ _)); refine blk_put (cs := #[.int .i64 ((rd_T34 l3 x11_2).f1.f0.f0), .int .i64 ((rd_T34 l3 x11_2).f1.f0.f1), .int .i64 ((rd_T34 l3 x11_2).f1.f1), .int .i64 0]) ?_ 3 _ rfl; (with_reducible repeat (first | refine blk_drewN ?_ _ | refine blk_drew ?_ | refine blk_alloc ?_ _)); refine blk_put (cs := #[.int .i64 ((rd_T34 l3 x11_2).f1.f0.f0), .int .i64 ((rd_T34 l3 x11_2).f1.f0.f1), .int .i64 0, .int .i64 0]) ?_ 2 _ rfl; (with_reducible repeat (first | refine blk_drewN ?_ _ | refine blk_drew ?_ | refine blk_alloc ?_ _)); refine blk_put (cs := #[.int .i64 ((rd_T34 l3 x11_2).f1.f0.f0), .int .i64 0, .int .i64 0, .int .i64 0]) ?_ 1 _ rfl; (with_reducible repeat (first | refine blk_drewN ?_ _ | refine blk_drew ?_ | refine blk_alloc ?_ _)); refine blk_put (cs := #[.int .i64 0, .int .i64 0, .int .i64 0, .int .i64 0]) ?_ 0 _ rfl; (with_reducible repeat (first | refine blk_drewN ?_ _ | refine blk_drew ?_ | refine blk_alloc ?_ _)); exact BK172.out⟩, ⟨by repeat (first | (with_reducible first | exact HB.out | apply below_alloc | apply pw_below_drewN | apply below_drew1 | refine below_set ?_ GE169.out | refine below_set ?_ GE172.out) | exact HB.out)⟩⟩
          ·rw [if_neg c39] at H
           have c39b0 : decide (3 < ((rd_T34 l3 x11_2).f0)) = false := decide_eq_false c39
           clear c39
           by_cases c40 : ((rd_T34 l3 x11_2).f1.f2) < 0
           ·rw [if_pos c40] at H
            have c40b0 : decide (((rd_T34 l3 x11_2).f1.f2) < 0) = true := decide_eq_true c40
            clear c40
            have H' := Aside0.mk H
            clear H
            have p173 : 0 ≤ (x11_2 : Int) := of_decide_eq_true (by first | (with_reducible assumption) | assumption)
            have q173 : x11_2 < (l3.length : Int) := of_decide_eq_true (by first | (with_reducible assumption) | assumption)
            obtain ⟨ad173, e173, hx173_0, hx173_1, hx173_2, hx173_3, hx173_4⟩ := at_T34 HR3.out x11_2 p173 q173
            obtain rfl : ad171 = ad173 := (by injection e173)
            have hn173_0 : ad171.block ≠ gb172 := Nat.ne_of_lt (Nat.lt_of_lt_of_le (by have := World.block_lt_of_cell? _ _ hx173_0; first | rwa [add_block] at this | exact this) GW172.out)
            have hn173_1 : ad171.block ≠ gb172 := Nat.ne_of_lt (Nat.lt_of_lt_of_le (by have := World.block_lt_of_cell? _ _ hx173_0; first | rwa [add_block] at this | exact this) GW172.out)
            have hn173_2 : ad171.block ≠ gb172 := Nat.ne_of_lt (Nat.lt_of_lt_of_le (by have := World.block_lt_of_cell? _ _ hx173_0; first | rwa [add_block] at this | exact this) GW172.out)
            have hn173_3 : ad171.block ≠ gb172 := Nat.ne_of_lt (Nat.lt_of_lt_of_le (by have := World.block_lt_of_cell? _ _ hx173_0; first | rwa [add_block] at this | exact this) GW172.out)
            replace hx173_0 := (HB.out.cell (World.block_lt_of_cell? w _ hx173_0)).trans hx173_0
            replace hx173_1 := (HB.out.cell (World.block_lt_of_cell? w _ hx173_1)).trans hx173_1
            replace hx173_2 := (HB.out.cell (World.block_lt_of_cell? w _ hx173_2)).trans hx173_2
            replace hx173_3 := (HB.out.cell (World.block_lt_of_cell? w _ hx173_3)).trans hx173_3
            replace hx173_4 := (HB.out.cell (World.block_lt_of_cell? w _ hx173_4)).trans hx173_4
            replace hx173_0 := (cell_far (p := ⟨gb172, 0, none⟩) (by first | (rw [add_block]; exact hn173_0) | (show (Addr.add _ _).block ≠ _; rw [add_block]; exact hn173_0) | exact hn173_0) (.int .i64 ((rd_T34 l3 x11_2).f1.f0.f0))).trans hx173_0
            replace hx173_1 := (cell_far (p := ⟨gb172, 0, none⟩) (by first | (rw [add_block]; exact hn173_0) | (show (Addr.add _ _).block ≠ _; rw [add_block]; exact hn173_0) | exact hn173_0) (.int .i64 ((rd_T34 l3 x11_2).f1.f0.f0))).trans hx173_1
            replace hx173_2 := (cell_far (p := ⟨gb172, 0, none⟩) (by first | (rw [add_block]; exact hn173_0) | (show (Addr.add _ _).block ≠ _; rw [add_block]; exact hn173_0) | exact hn173_0) (.int .i64 ((rd_T34 l3 x11_2).f1.f0.f0))).trans hx173_2
            replace hx173_3 := (cell_far (p := ⟨gb172, 0, none⟩) (by first | (rw [add_block]; exact hn173_0) | (show (Addr.add _ _).block ≠ _; rw [add_block]; exact hn173_0) | exact hn173_0) (.int .i64 ((rd_T34 l3 x11_2).f1.f0.f0))).trans hx173_3
            replace hx173_4 := (cell_far (p := ⟨gb172, 0, none⟩) (by first | (rw [add_block]; exact hn173_0) | (show (Addr.add _ _).block ≠ _; rw [add_block]; exact hn173_0) | exact hn173_0) (.int .i64 ((rd_T34 l3 x11_2).f1.f0.f0))).trans hx173_4
            replace hx173_0 := (cell_far (p := ⟨gb172, 1, none⟩) (by first | (rw [add_block]; exact hn173_1) | (show (Addr.add _ _).block ≠ _; rw [add_block]; exact hn173_1) | exact hn173_1) (.int .i64 ((rd_T34 l3 x11_2).f1.f0.f1))).trans hx173_0
            replace hx173_1 := (cell_far (p := ⟨gb172, 1, none⟩) (by first | (rw [add_block]; exact hn173_1) | (show (Addr.add _ _).block ≠ _; rw [add_block]; exact hn173_1) | exact hn173_1) (.int .i64 ((rd_T34 l3 x11_2).f1.f0.f1))).trans hx173_1
            replace hx173_2 := (cell_far (p := ⟨gb172, 1, none⟩) (by first | (rw [add_block]; exact hn173_1) | (show (Addr.add _ _).block ≠ _; rw [add_block]; exact hn173_1) | exact hn173_1) (.int .i64 ((rd_T34 l3 x11_2).f1.f0.f1))).trans hx173_2
            replace hx173_3 := (cell_far (p := ⟨gb172, 1, none⟩) (by first | (rw [add_block]; exact hn173_1) | (show (Addr.add _ _).block ≠ _; rw [add_block]; exact hn173_1) | exact hn173_1) (.int .i64 ((rd_T34 l3 x11_2).f1.f0.f1))).trans hx173_3
            replace hx173_4 := (cell_far (p := ⟨gb172, 1, none⟩) (by first | (rw [add_block]; exact hn173_1) | (show (Addr.add _ _).block ≠ _; rw [add_block]; exact hn173_1) | exact hn173_1) (.int .i64 ((rd_T34 l3 x11_2).f1.f0.f1))).trans hx173_4
            replace hx173_0 := (cell_far (p := ⟨gb172, 2, none⟩) (by first | (rw [add_block]; exact hn173_2) | (show (Addr.add _ _).block ≠ _; rw [add_block]; exact hn173_2) | exact hn173_2) (.int .i64 ((rd_T34 l3 x11_2).f1.f1))).trans hx173_0
            replace hx173_1 := (cell_far (p := ⟨gb172, 2, none⟩) (by first | (rw [add_block]; exact hn173_2) | (show (Addr.add _ _).block ≠ _; rw [add_block]; exact hn173_2) | exact hn173_2) (.int .i64 ((rd_T34 l3 x11_2).f1.f1))).trans hx173_1
            replace hx173_2 := (cell_far (p := ⟨gb172, 2, none⟩) (by first | (rw [add_block]; exact hn173_2) | (show (Addr.add _ _).block ≠ _; rw [add_block]; exact hn173_2) | exact hn173_2) (.int .i64 ((rd_T34 l3 x11_2).f1.f1))).trans hx173_2
            replace hx173_3 := (cell_far (p := ⟨gb172, 2, none⟩) (by first | (rw [add_block]; exact hn173_2) | (show (Addr.add _ _).block ≠ _; rw [add_block]; exact hn173_2) | exact hn173_2) (.int .i64 ((rd_T34 l3 x11_2).f1.f1))).trans hx173_3
            replace hx173_4 := (cell_far (p := ⟨gb172, 2, none⟩) (by first | (rw [add_block]; exact hn173_2) | (show (Addr.add _ _).block ≠ _; rw [add_block]; exact hn173_2) | exact hn173_2) (.int .i64 ((rd_T34 l3 x11_2).f1.f1))).trans hx173_4
            replace hx173_0 := (cell_far (p := ⟨gb172, 3, none⟩) (by first | (rw [add_block]; exact hn173_3) | (show (Addr.add _ _).block ≠ _; rw [add_block]; exact hn173_3) | exact hn173_3) (.int .i64 ((rd_T34 l3 x11_2).f1.f2))).trans hx173_0
            replace hx173_1 := (cell_far (p := ⟨gb172, 3, none⟩) (by first | (rw [add_block]; exact hn173_3) | (show (Addr.add _ _).block ≠ _; rw [add_block]; exact hn173_3) | exact hn173_3) (.int .i64 ((rd_T34 l3 x11_2).f1.f2))).trans hx173_1
            replace hx173_2 := (cell_far (p := ⟨gb172, 3, none⟩) (by first | (rw [add_block]; exact hn173_3) | (show (Addr.add _ _).block ≠ _; rw [add_block]; exact hn173_3) | exact hn173_3) (.int .i64 ((rd_T34 l3 x11_2).f1.f2))).trans hx173_2
            replace hx173_3 := (cell_far (p := ⟨gb172, 3, none⟩) (by first | (rw [add_block]; exact hn173_3) | (show (Addr.add _ _).block ≠ _; rw [add_block]; exact hn173_3) | exact hn173_3) (.int .i64 ((rd_T34 l3 x11_2).f1.f2))).trans hx173_3
            replace hx173_4 := (cell_far (p := ⟨gb172, 3, none⟩) (by first | (rw [add_block]; exact hn173_3) | (show (Addr.add _ _).block ≠ _; rw [add_block]; exact hn173_3) | exact hn173_3) (.int .i64 ((rd_T34 l3 x11_2).f1.f2))).trans hx173_4
            clear hn173_0
            clear hn173_1
            clear hn173_2
            clear hn173_3
            replace p173 := eq_true p173
            replace q173 := eq_true q173
            have p174 : 0 ≤ (x11_2 : Int) := of_decide_eq_true (by first | (with_reducible assumption) | assumption)
            have q174 : x11_2 < (l3.length : Int) := of_decide_eq_true (by first | (with_reducible assumption) | assumption)
            obtain ⟨ad174, e174, hx174_0, hx174_1, hx174_2, hx174_3, hx174_4⟩ := at_T34 HR3.out x11_2 p174 q174
            obtain rfl : ad171 = ad174 := (by injection e174)
            have hn174_0 : ad171.block ≠ gb172 := Nat.ne_of_lt (Nat.lt_of_lt_of_le (by have := World.block_lt_of_cell? _ _ hx174_0; first | rwa [add_block] at this | exact this) GW172.out)
            have hn174_1 : ad171.block ≠ gb172 := Nat.ne_of_lt (Nat.lt_of_lt_of_le (by have := World.block_lt_of_cell? _ _ hx174_0; first | rwa [add_block] at this | exact this) GW172.out)
            have hn174_2 : ad171.block ≠ gb172 := Nat.ne_of_lt (Nat.lt_of_lt_of_le (by have := World.block_lt_of_cell? _ _ hx174_0; first | rwa [add_block] at this | exact this) GW172.out)
            have hn174_3 : ad171.block ≠ gb172 := Nat.ne_of_lt (Nat.lt_of_lt_of_le (by have := World.block_lt_of_cell? _ _ hx174_0; first | rwa [add_block] at this | exact this) GW172.out)
            replace hx174_0 := (HB.out.cell (World.block_lt_of_cell? w _ hx174_0)).trans hx174_0
            replace hx174_1 := (HB.out.cell (World.block_lt_of_cell? w _ hx174_1)).trans hx174_1
            replace hx174_2 := (HB.out.cell (World.block_lt_of_cell? w _ hx174_2)).trans hx174_2
            replace hx174_3 := (HB.out.cell (World.block_lt_of_cell? w _ hx174_3)).trans hx174_3
            replace hx174_4 := (HB.out.cell (World.block_lt_of_cell? w _ hx174_4)).trans hx174_4
            replace hx174_0 := (cell_far (p := ⟨gb172, 0, none⟩) (by first | (rw [add_block]; exact hn174_0) | (show (Addr.add _ _).block ≠ _; rw [add_block]; exact hn174_0) | exact hn174_0) (.int .i64 ((rd_T34 l3 x11_2).f1.f0.f0))).trans hx174_0
            replace hx174_1 := (cell_far (p := ⟨gb172, 0, none⟩) (by first | (rw [add_block]; exact hn174_0) | (show (Addr.add _ _).block ≠ _; rw [add_block]; exact hn174_0) | exact hn174_0) (.int .i64 ((rd_T34 l3 x11_2).f1.f0.f0))).trans hx174_1
            replace hx174_2 := (cell_far (p := ⟨gb172, 0, none⟩) (by first | (rw [add_block]; exact hn174_0) | (show (Addr.add _ _).block ≠ _; rw [add_block]; exact hn174_0) | exact hn174_0) (.int .i64 ((rd_T34 l3 x11_2).f1.f0.f0))).trans hx174_2
            replace hx174_3 := (cell_far (p := ⟨gb172, 0, none⟩) (by first | (rw [add_block]; exact hn174_0) | (show (Addr.add _ _).block ≠ _; rw [add_block]; exact hn174_0) | exact hn174_0) (.int .i64 ((rd_T34 l3 x11_2).f1.f0.f0))).trans hx174_3
            replace hx174_4 := (cell_far (p := ⟨gb172, 0, none⟩) (by first | (rw [add_block]; exact hn174_0) | (show (Addr.add _ _).block ≠ _; rw [add_block]; exact hn174_0) | exact hn174_0) (.int .i64 ((rd_T34 l3 x11_2).f1.f0.f0))).trans hx174_4
            replace hx174_0 := (cell_far (p := ⟨gb172, 1, none⟩) (by first | (rw [add_block]; exact hn174_1) | (show (Addr.add _ _).block ≠ _; rw [add_block]; exact hn174_1) | exact hn174_1) (.int .i64 ((rd_T34 l3 x11_2).f1.f0.f1))).trans hx174_0
            replace hx174_1 := (cell_far (p := ⟨gb172, 1, none⟩) (by first | (rw [add_block]; exact hn174_1) | (show (Addr.add _ _).block ≠ _; rw [add_block]; exact hn174_1) | exact hn174_1) (.int .i64 ((rd_T34 l3 x11_2).f1.f0.f1))).trans hx174_1
            replace hx174_2 := (cell_far (p := ⟨gb172, 1, none⟩) (by first | (rw [add_block]; exact hn174_1) | (show (Addr.add _ _).block ≠ _; rw [add_block]; exact hn174_1) | exact hn174_1) (.int .i64 ((rd_T34 l3 x11_2).f1.f0.f1))).trans hx174_2
            replace hx174_3 := (cell_far (p := ⟨gb172, 1, none⟩) (by first | (rw [add_block]; exact hn174_1) | (show (Addr.add _ _).block ≠ _; rw [add_block]; exact hn174_1) | exact hn174_1) (.int .i64 ((rd_T34 l3 x11_2).f1.f0.f1))).trans hx174_3
            replace hx174_4 := (cell_far (p := ⟨gb172, 1, none⟩) (by first | (rw [add_block]; exact hn174_1) | (show (Addr.add _ _).block ≠ _; rw [add_block]; exact hn174_1) | exact hn174_1) (.int .i64 ((rd_T34 l3 x11_2).f1.f0.f1))).trans hx174_4
            replace hx174_0 := (cell_far (p := ⟨gb172, 2, none⟩) (by first | (rw [add_block]; exact hn174_2) | (show (Addr.add _ _).block ≠ _; rw [add_block]; exact hn174_2) | exact hn174_2) (.int .i64 ((rd_T34 l3 x11_2).f1.f1))).trans hx174_0
            replace hx174_1 := (cell_far (p := ⟨gb172, 2, none⟩) (by first | (rw [add_block]; exact hn174_2) | (show (Addr.add _ _).block ≠ _; rw [add_block]; exact hn174_2) | exact hn174_2) (.int .i64 ((rd_T34 l3 x11_2).f1.f1))).trans hx174_1
            replace hx174_2 := (cell_far (p := ⟨gb172, 2, none⟩) (by first | (rw [add_block]; exact hn174_2) | (show (Addr.add _ _).block ≠ _; rw [add_block]; exact hn174_2) | exact hn174_2) (.int .i64 ((rd_T34 l3 x11_2).f1.f1))).trans hx174_2
            replace hx174_3 := (cell_far (p := ⟨gb172, 2, none⟩) (by first | (rw [add_block]; exact hn174_2) | (show (Addr.add _ _).block ≠ _; rw [add_block]; exact hn174_2) | exact hn174_2) (.int .i64 ((rd_T34 l3 x11_2).f1.f1))).trans hx174_3
            replace hx174_4 := (cell_far (p := ⟨gb172, 2, none⟩) (by first | (rw [add_block]; exact hn174_2) | (show (Addr.add _ _).block ≠ _; rw [add_block]; exact hn174_2) | exact hn174_2) (.int .i64 ((rd_T34 l3 x11_2).f1.f1))).trans hx174_4
            replace hx174_0 := (cell_far (p := ⟨gb172, 3, none⟩) (by first | (rw [add_block]; exact hn174_3) | (show (Addr.add _ _).block ≠ _; rw [add_block]; exact hn174_3) | exact hn174_3) (.int .i64 ((rd_T34 l3 x11_2).f1.f2))).trans hx174_0
            replace hx174_1 := (cell_far (p := ⟨gb172, 3, none⟩) (by first | (rw [add_block]; exact hn174_3) | (show (Addr.add _ _).block ≠ _; rw [add_block]; exact hn174_3) | exact hn174_3) (.int .i64 ((rd_T34 l3 x11_2).f1.f2))).trans hx174_1
            replace hx174_2 := (cell_far (p := ⟨gb172, 3, none⟩) (by first | (rw [add_block]; exact hn174_3) | (show (Addr.add _ _).block ≠ _; rw [add_block]; exact hn174_3) | exact hn174_3) (.int .i64 ((rd_T34 l3 x11_2).f1.f2))).trans hx174_2
            replace hx174_3 := (cell_far (p := ⟨gb172, 3, none⟩) (by first | (rw [add_block]; exact hn174_3) | (show (Addr.add _ _).block ≠ _; rw [add_block]; exact hn174_3) | exact hn174_3) (.int .i64 ((rd_T34 l3 x11_2).f1.f2))).trans hx174_3
            replace hx174_4 := (cell_far (p := ⟨gb172, 3, none⟩) (by first | (rw [add_block]; exact hn174_3) | (show (Addr.add _ _).block ≠ _; rw [add_block]; exact hn174_3) | exact hn174_3) (.int .i64 ((rd_T34 l3 x11_2).f1.f2))).trans hx174_4
            clear hn174_0
            clear hn174_1
            clear hn174_2
            clear hn174_3
            replace p174 := eq_true p174
            replace q174 := eq_true q174
            have hnb41 := NB172_169.out
            have hnc41 := NB169_172.out
            have hcz42_0 : w35.cell? ⟨gb172, 0, none⟩ = some (.int .i64 0) := (blk_cell BK172.out 0).trans rfl
            have hcz42_1 : w35.cell? ⟨gb172, 1, none⟩ = some (.int .i64 0) := (blk_cell BK172.out 1).trans rfl
            have hcz42_2 : w35.cell? ⟨gb172, 2, none⟩ = some (.int .i64 0) := (blk_cell BK172.out 2).trans rfl
            have hcz42_3 : w35.cell? ⟨gb172, 3, none⟩ = some (.int .i64 0) := (blk_cell BK172.out 3).trans rfl
            have hfz42_0 := blk_frozen BK172.out 0
            have hfz42_1 := blk_frozen BK172.out 1
            have hfz42_2 := blk_frozen BK172.out 2
            have hfz42_3 := blk_frozen BK172.out 3
            go_wp2
            go_meet
            case rel => exact ⟨_, (true), (by first | rfl | (simp; done) | (simp [*]; done)), H', ⟨by have := HJ5.out; have := HK2.out; first | omega | exact Nat.le_refl _⟩, ⟨by (with_reducible repeat (first | refine blk_drewN ?_ _ | refine blk_drew ?_ | refine blk_alloc ?_ _)); refine blk_far ?_ NB169_172.out _; (with_reducible repeat (first | refine blk_drewN ?_ _ | refine blk_drew ?_ | refine blk_alloc ?_ _)); refine blk_far ?_ NB169_172.out _; (with_reducible repeat (first | refine blk_drewN ?_ _ | refine blk_drew ?_ | refine blk_alloc ?_ _)); refine blk_far ?_ NB169_172.out _; (with_reducible repeat (first | refine blk_drewN ?_ _ | refine blk_drew ?_ | refine blk_alloc ?_ _)); refine blk_far ?_ NB169_172.out _; (with_reducible repeat (first | refine blk_drewN ?_ _ | refine blk_drew ?_ | refine blk_alloc ?_ _)); exact BK169.out⟩, ⟨by (with_reducible repeat (first | refine blk_drewN ?_ _ | refine blk_drew ?_ | refine blk_alloc ?_ _)); refine blk_put (cs := #[.int .i64 ((rd_T34 l3 x11_2).f1.f0.f0), .int .i64 ((rd_T34 l3 x11_2).f1.f0.f1), .int .i64 ((rd_T34 l3 x11_2).f1.f1), .int .i64 0]) ?_ 3 _ rfl; (with_reducible repeat (first | refine blk_drewN ?_ _ | refine blk_drew ?_ | refine blk_alloc ?_ _)); refine blk_put (cs := #[.int .i64 ((rd_T34 l3 x11_2).f1.f0.f0), .int .i64 ((rd_T34 l3 x11_2).f1.f0.f1), .int .i64 0, .int .i64 0]) ?_ 2 _ rfl; (with_reducible repeat (first | refine blk_drewN ?_ _ | refine blk_drew ?_ | refine blk_alloc ?_ _)); refine blk_put (cs := #[.int .i64 ((rd_T34 l3 x11_2).f1.f0.f0), .int .i64 0, .int .i64 0, .int .i64 0]) ?_ 1 _ rfl; (with_reducible repeat (first | refine blk_drewN ?_ _ | refine blk_drew ?_ | refine blk_alloc ?_ _)); refine blk_put (cs := #[.int .i64 0, .int .i64 0, .int .i64 0, .int .i64 0]) ?_ 0 _ rfl; (with_reducible repeat (first | refine blk_drewN ?_ _ | refine blk_drew ?_ | refine blk_alloc ?_ _)); exact BK172.out⟩, ⟨by repeat (first | (with_reducible first | exact HB.out | apply below_alloc | apply pw_below_drewN | apply below_drew1 | refine below_set ?_ GE169.out | refine below_set ?_ GE172.out) | exact HB.out)⟩⟩
           ·rw [if_neg c40] at H
            have c40b0 : decide (((rd_T34 l3 x11_2).f1.f2) < 0) = false := decide_eq_false c40
            clear c40
            by_cases c43 : ((rd_T34 l3 x11_2).f1.f2) > 1010000
            ·rw [if_pos c43] at H
             have c43b0 : decide (1010000 < ((rd_T34 l3 x11_2).f1.f2)) = true := decide_eq_true c43
             clear c43
             have H' := Aside0.mk H
             clear H
             have p173 : 0 ≤ (x11_2 : Int) := of_decide_eq_true (by first | (with_reducible assumption) | assumption)
             have q173 : x11_2 < (l3.length : Int) := of_decide_eq_true (by first | (with_reducible assumption) | assumption)
             obtain ⟨ad173, e173, hx173_0, hx173_1, hx173_2, hx173_3, hx173_4⟩ := at_T34 HR3.out x11_2 p173 q173
             obtain rfl : ad171 = ad173 := (by injection e173)
             have hn173_0 : ad171.block ≠ gb172 := Nat.ne_of_lt (Nat.lt_of_lt_of_le (by have := World.block_lt_of_cell? _ _ hx173_0; first | rwa [add_block] at this | exact this) GW172.out)
             have hn173_1 : ad171.block ≠ gb172 := Nat.ne_of_lt (Nat.lt_of_lt_of_le (by have := World.block_lt_of_cell? _ _ hx173_0; first | rwa [add_block] at this | exact this) GW172.out)
             have hn173_2 : ad171.block ≠ gb172 := Nat.ne_of_lt (Nat.lt_of_lt_of_le (by have := World.block_lt_of_cell? _ _ hx173_0; first | rwa [add_block] at this | exact this) GW172.out)
             have hn173_3 : ad171.block ≠ gb172 := Nat.ne_of_lt (Nat.lt_of_lt_of_le (by have := World.block_lt_of_cell? _ _ hx173_0; first | rwa [add_block] at this | exact this) GW172.out)
             replace hx173_0 := (HB.out.cell (World.block_lt_of_cell? w _ hx173_0)).trans hx173_0
             replace hx173_1 := (HB.out.cell (World.block_lt_of_cell? w _ hx173_1)).trans hx173_1
             replace hx173_2 := (HB.out.cell (World.block_lt_of_cell? w _ hx173_2)).trans hx173_2
             replace hx173_3 := (HB.out.cell (World.block_lt_of_cell? w _ hx173_3)).trans hx173_3
             replace hx173_4 := (HB.out.cell (World.block_lt_of_cell? w _ hx173_4)).trans hx173_4
             replace hx173_0 := (cell_far (p := ⟨gb172, 0, none⟩) (by first | (rw [add_block]; exact hn173_0) | (show (Addr.add _ _).block ≠ _; rw [add_block]; exact hn173_0) | exact hn173_0) (.int .i64 ((rd_T34 l3 x11_2).f1.f0.f0))).trans hx173_0
             replace hx173_1 := (cell_far (p := ⟨gb172, 0, none⟩) (by first | (rw [add_block]; exact hn173_0) | (show (Addr.add _ _).block ≠ _; rw [add_block]; exact hn173_0) | exact hn173_0) (.int .i64 ((rd_T34 l3 x11_2).f1.f0.f0))).trans hx173_1
             replace hx173_2 := (cell_far (p := ⟨gb172, 0, none⟩) (by first | (rw [add_block]; exact hn173_0) | (show (Addr.add _ _).block ≠ _; rw [add_block]; exact hn173_0) | exact hn173_0) (.int .i64 ((rd_T34 l3 x11_2).f1.f0.f0))).trans hx173_2
             replace hx173_3 := (cell_far (p := ⟨gb172, 0, none⟩) (by first | (rw [add_block]; exact hn173_0) | (show (Addr.add _ _).block ≠ _; rw [add_block]; exact hn173_0) | exact hn173_0) (.int .i64 ((rd_T34 l3 x11_2).f1.f0.f0))).trans hx173_3
             replace hx173_4 := (cell_far (p := ⟨gb172, 0, none⟩) (by first | (rw [add_block]; exact hn173_0) | (show (Addr.add _ _).block ≠ _; rw [add_block]; exact hn173_0) | exact hn173_0) (.int .i64 ((rd_T34 l3 x11_2).f1.f0.f0))).trans hx173_4
             replace hx173_0 := (cell_far (p := ⟨gb172, 1, none⟩) (by first | (rw [add_block]; exact hn173_1) | (show (Addr.add _ _).block ≠ _; rw [add_block]; exact hn173_1) | exact hn173_1) (.int .i64 ((rd_T34 l3 x11_2).f1.f0.f1))).trans hx173_0
             replace hx173_1 := (cell_far (p := ⟨gb172, 1, none⟩) (by first | (rw [add_block]; exact hn173_1) | (show (Addr.add _ _).block ≠ _; rw [add_block]; exact hn173_1) | exact hn173_1) (.int .i64 ((rd_T34 l3 x11_2).f1.f0.f1))).trans hx173_1
             replace hx173_2 := (cell_far (p := ⟨gb172, 1, none⟩) (by first | (rw [add_block]; exact hn173_1) | (show (Addr.add _ _).block ≠ _; rw [add_block]; exact hn173_1) | exact hn173_1) (.int .i64 ((rd_T34 l3 x11_2).f1.f0.f1))).trans hx173_2
             replace hx173_3 := (cell_far (p := ⟨gb172, 1, none⟩) (by first | (rw [add_block]; exact hn173_1) | (show (Addr.add _ _).block ≠ _; rw [add_block]; exact hn173_1) | exact hn173_1) (.int .i64 ((rd_T34 l3 x11_2).f1.f0.f1))).trans hx173_3
             replace hx173_4 := (cell_far (p := ⟨gb172, 1, none⟩) (by first | (rw [add_block]; exact hn173_1) | (show (Addr.add _ _).block ≠ _; rw [add_block]; exact hn173_1) | exact hn173_1) (.int .i64 ((rd_T34 l3 x11_2).f1.f0.f1))).trans hx173_4
             replace hx173_0 := (cell_far (p := ⟨gb172, 2, none⟩) (by first | (rw [add_block]; exact hn173_2) | (show (Addr.add _ _).block ≠ _; rw [add_block]; exact hn173_2) | exact hn173_2) (.int .i64 ((rd_T34 l3 x11_2).f1.f1))).trans hx173_0
             replace hx173_1 := (cell_far (p := ⟨gb172, 2, none⟩) (by first | (rw [add_block]; exact hn173_2) | (show (Addr.add _ _).block ≠ _; rw [add_block]; exact hn173_2) | exact hn173_2) (.int .i64 ((rd_T34 l3 x11_2).f1.f1))).trans hx173_1
             replace hx173_2 := (cell_far (p := ⟨gb172, 2, none⟩) (by first | (rw [add_block]; exact hn173_2) | (show (Addr.add _ _).block ≠ _; rw [add_block]; exact hn173_2) | exact hn173_2) (.int .i64 ((rd_T34 l3 x11_2).f1.f1))).trans hx173_2
             replace hx173_3 := (cell_far (p := ⟨gb172, 2, none⟩) (by first | (rw [add_block]; exact hn173_2) | (show (Addr.add _ _).block ≠ _; rw [add_block]; exact hn173_2) | exact hn173_2) (.int .i64 ((rd_T34 l3 x11_2).f1.f1))).trans hx173_3
             replace hx173_4 := (cell_far (p := ⟨gb172, 2, none⟩) (by first | (rw [add_block]; exact hn173_2) | (show (Addr.add _ _).block ≠ _; rw [add_block]; exact hn173_2) | exact hn173_2) (.int .i64 ((rd_T34 l3 x11_2).f1.f1))).trans hx173_4
             replace hx173_0 := (cell_far (p := ⟨gb172, 3, none⟩) (by first | (rw [add_block]; exact hn173_3) | (show (Addr.add _ _).block ≠ _; rw [add_block]; exact hn173_3) | exact hn173_3) (.int .i64 ((rd_T34 l3 x11_2).f1.f2))).trans hx173_0
             replace hx173_1 := (cell_far (p := ⟨gb172, 3, none⟩) (by first | (rw [add_block]; exact hn173_3) | (show (Addr.add _ _).block ≠ _; rw [add_block]; exact hn173_3) | exact hn173_3) (.int .i64 ((rd_T34 l3 x11_2).f1.f2))).trans hx173_1
             replace hx173_2 := (cell_far (p := ⟨gb172, 3, none⟩) (by first | (rw [add_block]; exact hn173_3) | (show (Addr.add _ _).block ≠ _; rw [add_block]; exact hn173_3) | exact hn173_3) (.int .i64 ((rd_T34 l3 x11_2).f1.f2))).trans hx173_2
             replace hx173_3 := (cell_far (p := ⟨gb172, 3, none⟩) (by first | (rw [add_block]; exact hn173_3) | (show (Addr.add _ _).block ≠ _; rw [add_block]; exact hn173_3) | exact hn173_3) (.int .i64 ((rd_T34 l3 x11_2).f1.f2))).trans hx173_3
             replace hx173_4 := (cell_far (p := ⟨gb172, 3, none⟩) (by first | (rw [add_block]; exact hn173_3) | (show (Addr.add _ _).block ≠ _; rw [add_block]; exact hn173_3) | exact hn173_3) (.int .i64 ((rd_T34 l3 x11_2).f1.f2))).trans hx173_4
             clear hn173_0
             clear hn173_1
             clear hn173_2
             clear hn173_3
             replace p173 := eq_true p173
             replace q173 := eq_true q173
             have p174 : 0 ≤ (x11_2 : Int) := of_decide_eq_true (by first | (with_reducible assumption) | assumption)
             have q174 : x11_2 < (l3.length : Int) := of_decide_eq_true (by first | (with_reducible assumption) | assumption)
             obtain ⟨ad174, e174, hx174_0, hx174_1, hx174_2, hx174_3, hx174_4⟩ := at_T34 HR3.out x11_2 p174 q174
             obtain rfl : ad171 = ad174 := (by injection e174)
             have hn174_0 : ad171.block ≠ gb172 := Nat.ne_of_lt (Nat.lt_of_lt_of_le (by have := World.block_lt_of_cell? _ _ hx174_0; first | rwa [add_block] at this | exact this) GW172.out)
             have hn174_1 : ad171.block ≠ gb172 := Nat.ne_of_lt (Nat.lt_of_lt_of_le (by have := World.block_lt_of_cell? _ _ hx174_0; first | rwa [add_block] at this | exact this) GW172.out)
             have hn174_2 : ad171.block ≠ gb172 := Nat.ne_of_lt (Nat.lt_of_lt_of_le (by have := World.block_lt_of_cell? _ _ hx174_0; first | rwa [add_block] at this | exact this) GW172.out)
             have hn174_3 : ad171.block ≠ gb172 := Nat.ne_of_lt (Nat.lt_of_lt_of_le (by have := World.block_lt_of_cell? _ _ hx174_0; first | rwa [add_block] at this | exact this) GW172.out)
             replace hx174_0 := (HB.out.cell (World.block_lt_of_cell? w _ hx174_0)).trans hx174_0
             replace hx174_1 := (HB.out.cell (World.block_lt_of_cell? w _ hx174_1)).trans hx174_1
             replace hx174_2 := (HB.out.cell (World.block_lt_of_cell? w _ hx174_2)).trans hx174_2
             replace hx174_3 := (HB.out.cell (World.block_lt_of_cell? w _ hx174_3)).trans hx174_3
             replace hx174_4 := (HB.out.cell (World.block_lt_of_cell? w _ hx174_4)).trans hx174_4
             replace hx174_0 := (cell_far (p := ⟨gb172, 0, none⟩) (by first | (rw [add_block]; exact hn174_0) | (show (Addr.add _ _).block ≠ _; rw [add_block]; exact hn174_0) | exact hn174_0) (.int .i64 ((rd_T34 l3 x11_2).f1.f0.f0))).trans hx174_0
             replace hx174_1 := (cell_far (p := ⟨gb172, 0, none⟩) (by first | (rw [add_block]; exact hn174_0) | (show (Addr.add _ _).block ≠ _; rw [add_block]; exact hn174_0) | exact hn174_0) (.int .i64 ((rd_T34 l3 x11_2).f1.f0.f0))).trans hx174_1
             replace hx174_2 := (cell_far (p := ⟨gb172, 0, none⟩) (by first | (rw [add_block]; exact hn174_0) | (show (Addr.add _ _).block ≠ _; rw [add_block]; exact hn174_0) | exact hn174_0) (.int .i64 ((rd_T34 l3 x11_2).f1.f0.f0))).trans hx174_2
             replace hx174_3 := (cell_far (p := ⟨gb172, 0, none⟩) (by first | (rw [add_block]; exact hn174_0) | (show (Addr.add _ _).block ≠ _; rw [add_block]; exact hn174_0) | exact hn174_0) (.int .i64 ((rd_T34 l3 x11_2).f1.f0.f0))).trans hx174_3
             replace hx174_4 := (cell_far (p := ⟨gb172, 0, none⟩) (by first | (rw [add_block]; exact hn174_0) | (show (Addr.add _ _).block ≠ _; rw [add_block]; exact hn174_0) | exact hn174_0) (.int .i64 ((rd_T34 l3 x11_2).f1.f0.f0))).trans hx174_4
             replace hx174_0 := (cell_far (p := ⟨gb172, 1, none⟩) (by first | (rw [add_block]; exact hn174_1) | (show (Addr.add _ _).block ≠ _; rw [add_block]; exact hn174_1) | exact hn174_1) (.int .i64 ((rd_T34 l3 x11_2).f1.f0.f1))).trans hx174_0
             replace hx174_1 := (cell_far (p := ⟨gb172, 1, none⟩) (by first | (rw [add_block]; exact hn174_1) | (show (Addr.add _ _).block ≠ _; rw [add_block]; exact hn174_1) | exact hn174_1) (.int .i64 ((rd_T34 l3 x11_2).f1.f0.f1))).trans hx174_1
             replace hx174_2 := (cell_far (p := ⟨gb172, 1, none⟩) (by first | (rw [add_block]; exact hn174_1) | (show (Addr.add _ _).block ≠ _; rw [add_block]; exact hn174_1) | exact hn174_1) (.int .i64 ((rd_T34 l3 x11_2).f1.f0.f1))).trans hx174_2
             replace hx174_3 := (cell_far (p := ⟨gb172, 1, none⟩) (by first | (rw [add_block]; exact hn174_1) | (show (Addr.add _ _).block ≠ _; rw [add_block]; exact hn174_1) | exact hn174_1) (.int .i64 ((rd_T34 l3 x11_2).f1.f0.f1))).trans hx174_3
             replace hx174_4 := (cell_far (p := ⟨gb172, 1, none⟩) (by first | (rw [add_block]; exact hn174_1) | (show (Addr.add _ _).block ≠ _; rw [add_block]; exact hn174_1) | exact hn174_1) (.int .i64 ((rd_T34 l3 x11_2).f1.f0.f1))).trans hx174_4
             replace hx174_0 := (cell_far (p := ⟨gb172, 2, none⟩) (by first | (rw [add_block]; exact hn174_2) | (show (Addr.add _ _).block ≠ _; rw [add_block]; exact hn174_2) | exact hn174_2) (.int .i64 ((rd_T34 l3 x11_2).f1.f1))).trans hx174_0
             replace hx174_1 := (cell_far (p := ⟨gb172, 2, none⟩) (by first | (rw [add_block]; exact hn174_2) | (show (Addr.add _ _).block ≠ _; rw [add_block]; exact hn174_2) | exact hn174_2) (.int .i64 ((rd_T34 l3 x11_2).f1.f1))).trans hx174_1
             replace hx174_2 := (cell_far (p := ⟨gb172, 2, none⟩) (by first | (rw [add_block]; exact hn174_2) | (show (Addr.add _ _).block ≠ _; rw [add_block]; exact hn174_2) | exact hn174_2) (.int .i64 ((rd_T34 l3 x11_2).f1.f1))).trans hx174_2
             replace hx174_3 := (cell_far (p := ⟨gb172, 2, none⟩) (by first | (rw [add_block]; exact hn174_2) | (show (Addr.add _ _).block ≠ _; rw [add_block]; exact hn174_2) | exact hn174_2) (.int .i64 ((rd_T34 l3 x11_2).f1.f1))).trans hx174_3
             replace hx174_4 := (cell_far (p := ⟨gb172, 2, none⟩) (by first | (rw [add_block]; exact hn174_2) | (show (Addr.add _ _).block ≠ _; rw [add_block]; exact hn174_2) | exact hn174_2) (.int .i64 ((rd_T34 l3 x11_2).f1.f1))).trans hx174_4
             replace hx174_0 := (cell_far (p := ⟨gb172, 3, none⟩) (by first | (rw [add_block]; exact hn174_3) | (show (Addr.add _ _).block ≠ _; rw [add_block]; exact hn174_3) | exact hn174_3) (.int .i64 ((rd_T34 l3 x11_2).f1.f2))).trans hx174_0
             replace hx174_1 := (cell_far (p := ⟨gb172, 3, none⟩) (by first | (rw [add_block]; exact hn174_3) | (show (Addr.add _ _).block ≠ _; rw [add_block]; exact hn174_3) | exact hn174_3) (.int .i64 ((rd_T34 l3 x11_2).f1.f2))).trans hx174_1
             replace hx174_2 := (cell_far (p := ⟨gb172, 3, none⟩) (by first | (rw [add_block]; exact hn174_3) | (show (Addr.add _ _).block ≠ _; rw [add_block]; exact hn174_3) | exact hn174_3) (.int .i64 ((rd_T34 l3 x11_2).f1.f2))).trans hx174_2
             replace hx174_3 := (cell_far (p := ⟨gb172, 3, none⟩) (by first | (rw [add_block]; exact hn174_3) | (show (Addr.add _ _).block ≠ _; rw [add_block]; exact hn174_3) | exact hn174_3) (.int .i64 ((rd_T34 l3 x11_2).f1.f2))).trans hx174_3
             replace hx174_4 := (cell_far (p := ⟨gb172, 3, none⟩) (by first | (rw [add_block]; exact hn174_3) | (show (Addr.add _ _).block ≠ _; rw [add_block]; exact hn174_3) | exact hn174_3) (.int .i64 ((rd_T34 l3 x11_2).f1.f2))).trans hx174_4
             clear hn174_0
             clear hn174_1
             clear hn174_2
             clear hn174_3
             replace p174 := eq_true p174
             replace q174 := eq_true q174
             have hnb44 := NB172_169.out
             have hnc44 := NB169_172.out
             have hcz45_0 : w35.cell? ⟨gb172, 0, none⟩ = some (.int .i64 0) := (blk_cell BK172.out 0).trans rfl
             have hcz45_1 : w35.cell? ⟨gb172, 1, none⟩ = some (.int .i64 0) := (blk_cell BK172.out 1).trans rfl
             have hcz45_2 : w35.cell? ⟨gb172, 2, none⟩ = some (.int .i64 0) := (blk_cell BK172.out 2).trans rfl
             have hcz45_3 : w35.cell? ⟨gb172, 3, none⟩ = some (.int .i64 0) := (blk_cell BK172.out 3).trans rfl
             have hfz45_0 := blk_frozen BK172.out 0
             have hfz45_1 := blk_frozen BK172.out 1
             have hfz45_2 := blk_frozen BK172.out 2
             have hfz45_3 := blk_frozen BK172.out 3
             go_wp2
             go_meet
             case rel => exact ⟨_, (true), (by first | rfl | (simp; done) | (simp [*]; done)), H', ⟨by have := HJ5.out; have := HK2.out; first | omega | exact Nat.le_refl _⟩, ⟨by (with_reducible repeat (first | refine blk_drewN ?_ _ | refine blk_drew ?_ | refine blk_alloc ?_ _)); refine blk_far ?_ NB169_172.out _; (with_reducible repeat (first | refine blk_drewN ?_ _ | refine blk_drew ?_ | refine blk_alloc ?_ _)); refine blk_far ?_ NB169_172.out _; (with_reducible repeat (first | refine blk_drewN ?_ _ | refine blk_drew ?_ | refine blk_alloc ?_ _)); refine blk_far ?_ NB169_172.out _; (with_reducible repeat (first | refine blk_drewN ?_ _ | refine blk_drew ?_ | refine blk_alloc ?_ _)); refine blk_far ?_ NB169_172.out _; (with_reducible repeat (first | refine blk_drewN ?_ _ | refine blk_drew ?_ | refine blk_alloc ?_ _)); exact BK169.out⟩, ⟨by (with_reducible repeat (first | refine blk_drewN ?_ _ | refine blk_drew ?_ | refine blk_alloc ?_ _)); refine blk_put (cs := #[.int .i64 ((rd_T34 l3 x11_2).f1.f0.f0), .int .i64 ((rd_T34 l3 x11_2).f1.f0.f1), .int .i64 ((rd_T34 l3 x11_2).f1.f1), .int .i64 0]) ?_ 3 _ rfl; (with_reducible repeat (first | refine blk_drewN ?_ _ | refine blk_drew ?_ | refine blk_alloc ?_ _)); refine blk_put (cs := #[.int .i64 ((rd_T34 l3 x11_2).f1.f0.f0), .int .i64 ((rd_T34 l3 x11_2).f1.f0.f1), .int .i64 0, .int .i64 0]) ?_ 2 _ rfl; (with_reducible repeat (first | refine blk_drewN ?_ _ | refine blk_drew ?_ | refine blk_alloc ?_ _)); refine blk_put (cs := #[.int .i64 ((rd_T34 l3 x11_2).f1.f0.f0), .int .i64 0, .int .i64 0, .int .i64 0]) ?_ 1 _ rfl; (with_reducible repeat (first | refine blk_drewN ?_ _ | refine blk_drew ?_ | refine blk_alloc ?_ _)); refine blk_put (cs := #[.int .i64 0, .int .i64 0, .int .i64 0, .int .i64 0]) ?_ 0 _ rfl; (with_reducible repeat (first | refine blk_drewN ?_ _ | refine blk_drew ?_ | refine blk_alloc ?_ _)); exact BK172.out⟩, ⟨by repeat (first | (with_reducible first | exact HB.out | apply below_alloc | apply pw_below_drewN | apply below_drew1 | refine below_set ?_ GE169.out | refine below_set ?_ GE172.out) | exact HB.out)⟩⟩
            ·rw [if_neg c43] at H
             have c43b0 : decide (1010000 < ((rd_T34 l3 x11_2).f1.f2)) = false := decide_eq_false c43
             clear c43
             by_cases c46 : a0_2 = 1
             ·rw [if_pos c46] at H
              have c46b0 : (a0_2 == 1) = true := beq_iff_eq.mpr c46
              have c46b1 : (a0_2 != 1) = false := bne_eq_false_iff_eq.mpr c46
              clear c46
              have H' := Aside0.mk H
              clear H
              have p173 : 0 ≤ (x11_2 : Int) := of_decide_eq_true (by first | (with_reducible assumption) | assumption)
              have q173 : x11_2 < (l3.length : Int) := of_decide_eq_true (by first | (with_reducible assumption) | assumption)
              obtain ⟨ad173, e173, hx173_0, hx173_1, hx173_2, hx173_3, hx173_4⟩ := at_T34 HR3.out x11_2 p173 q173
              obtain rfl : ad171 = ad173 := (by injection e173)
              have hn173_0 : ad171.block ≠ gb172 := Nat.ne_of_lt (Nat.lt_of_lt_of_le (by have := World.block_lt_of_cell? _ _ hx173_0; first | rwa [add_block] at this | exact this) GW172.out)
              have hn173_1 : ad171.block ≠ gb172 := Nat.ne_of_lt (Nat.lt_of_lt_of_le (by have := World.block_lt_of_cell? _ _ hx173_0; first | rwa [add_block] at this | exact this) GW172.out)
              have hn173_2 : ad171.block ≠ gb172 := Nat.ne_of_lt (Nat.lt_of_lt_of_le (by have := World.block_lt_of_cell? _ _ hx173_0; first | rwa [add_block] at this | exact this) GW172.out)
              have hn173_3 : ad171.block ≠ gb172 := Nat.ne_of_lt (Nat.lt_of_lt_of_le (by have := World.block_lt_of_cell? _ _ hx173_0; first | rwa [add_block] at this | exact this) GW172.out)
              replace hx173_0 := (HB.out.cell (World.block_lt_of_cell? w _ hx173_0)).trans hx173_0
              replace hx173_1 := (HB.out.cell (World.block_lt_of_cell? w _ hx173_1)).trans hx173_1
              replace hx173_2 := (HB.out.cell (World.block_lt_of_cell? w _ hx173_2)).trans hx173_2
              replace hx173_3 := (HB.out.cell (World.block_lt_of_cell? w _ hx173_3)).trans hx173_3
              replace hx173_4 := (HB.out.cell (World.block_lt_of_cell? w _ hx173_4)).trans hx173_4
              replace hx173_0 := (cell_far (p := ⟨gb172, 0, none⟩) (by first | (rw [add_block]; exact hn173_0) | (show (Addr.add _ _).block ≠ _; rw [add_block]; exact hn173_0) | exact hn173_0) (.int .i64 ((rd_T34 l3 x11_2).f1.f0.f0))).trans hx173_0
              replace hx173_1 := (cell_far (p := ⟨gb172, 0, none⟩) (by first | (rw [add_block]; exact hn173_0) | (show (Addr.add _ _).block ≠ _; rw [add_block]; exact hn173_0) | exact hn173_0) (.int .i64 ((rd_T34 l3 x11_2).f1.f0.f0))).trans hx173_1
              replace hx173_2 := (cell_far (p := ⟨gb172, 0, none⟩) (by first | (rw [add_block]; exact hn173_0) | (show (Addr.add _ _).block ≠ _; rw [add_block]; exact hn173_0) | exact hn173_0) (.int .i64 ((rd_T34 l3 x11_2).f1.f0.f0))).trans hx173_2
              replace hx173_3 := (cell_far (p := ⟨gb172, 0, none⟩) (by first | (rw [add_block]; exact hn173_0) | (show (Addr.add _ _).block ≠ _; rw [add_block]; exact hn173_0) | exact hn173_0) (.int .i64 ((rd_T34 l3 x11_2).f1.f0.f0))).trans hx173_3
              replace hx173_4 := (cell_far (p := ⟨gb172, 0, none⟩) (by first | (rw [add_block]; exact hn173_0) | (show (Addr.add _ _).block ≠ _; rw [add_block]; exact hn173_0) | exact hn173_0) (.int .i64 ((rd_T34 l3 x11_2).f1.f0.f0))).trans hx173_4
              replace hx173_0 := (cell_far (p := ⟨gb172, 1, none⟩) (by first | (rw [add_block]; exact hn173_1) | (show (Addr.add _ _).block ≠ _; rw [add_block]; exact hn173_1) | exact hn173_1) (.int .i64 ((rd_T34 l3 x11_2).f1.f0.f1))).trans hx173_0
              replace hx173_1 := (cell_far (p := ⟨gb172, 1, none⟩) (by first | (rw [add_block]; exact hn173_1) | (show (Addr.add _ _).block ≠ _; rw [add_block]; exact hn173_1) | exact hn173_1) (.int .i64 ((rd_T34 l3 x11_2).f1.f0.f1))).trans hx173_1
              replace hx173_2 := (cell_far (p := ⟨gb172, 1, none⟩) (by first | (rw [add_block]; exact hn173_1) | (show (Addr.add _ _).block ≠ _; rw [add_block]; exact hn173_1) | exact hn173_1) (.int .i64 ((rd_T34 l3 x11_2).f1.f0.f1))).trans hx173_2
              replace hx173_3 := (cell_far (p := ⟨gb172, 1, none⟩) (by first | (rw [add_block]; exact hn173_1) | (show (Addr.add _ _).block ≠ _; rw [add_block]; exact hn173_1) | exact hn173_1) (.int .i64 ((rd_T34 l3 x11_2).f1.f0.f1))).trans hx173_3
              replace hx173_4 := (cell_far (p := ⟨gb172, 1, none⟩) (by first | (rw [add_block]; exact hn173_1) | (show (Addr.add _ _).block ≠ _; rw [add_block]; exact hn173_1) | exact hn173_1) (.int .i64 ((rd_T34 l3 x11_2).f1.f0.f1))).trans hx173_4
              replace hx173_0 := (cell_far (p := ⟨gb172, 2, none⟩) (by first | (rw [add_block]; exact hn173_2) | (show (Addr.add _ _).block ≠ _; rw [add_block]; exact hn173_2) | exact hn173_2) (.int .i64 ((rd_T34 l3 x11_2).f1.f1))).trans hx173_0
              replace hx173_1 := (cell_far (p := ⟨gb172, 2, none⟩) (by first | (rw [add_block]; exact hn173_2) | (show (Addr.add _ _).block ≠ _; rw [add_block]; exact hn173_2) | exact hn173_2) (.int .i64 ((rd_T34 l3 x11_2).f1.f1))).trans hx173_1
              replace hx173_2 := (cell_far (p := ⟨gb172, 2, none⟩) (by first | (rw [add_block]; exact hn173_2) | (show (Addr.add _ _).block ≠ _; rw [add_block]; exact hn173_2) | exact hn173_2) (.int .i64 ((rd_T34 l3 x11_2).f1.f1))).trans hx173_2
              replace hx173_3 := (cell_far (p := ⟨gb172, 2, none⟩) (by first | (rw [add_block]; exact hn173_2) | (show (Addr.add _ _).block ≠ _; rw [add_block]; exact hn173_2) | exact hn173_2) (.int .i64 ((rd_T34 l3 x11_2).f1.f1))).trans hx173_3
              replace hx173_4 := (cell_far (p := ⟨gb172, 2, none⟩) (by first | (rw [add_block]; exact hn173_2) | (show (Addr.add _ _).block ≠ _; rw [add_block]; exact hn173_2) | exact hn173_2) (.int .i64 ((rd_T34 l3 x11_2).f1.f1))).trans hx173_4
              replace hx173_0 := (cell_far (p := ⟨gb172, 3, none⟩) (by first | (rw [add_block]; exact hn173_3) | (show (Addr.add _ _).block ≠ _; rw [add_block]; exact hn173_3) | exact hn173_3) (.int .i64 ((rd_T34 l3 x11_2).f1.f2))).trans hx173_0
              replace hx173_1 := (cell_far (p := ⟨gb172, 3, none⟩) (by first | (rw [add_block]; exact hn173_3) | (show (Addr.add _ _).block ≠ _; rw [add_block]; exact hn173_3) | exact hn173_3) (.int .i64 ((rd_T34 l3 x11_2).f1.f2))).trans hx173_1
              replace hx173_2 := (cell_far (p := ⟨gb172, 3, none⟩) (by first | (rw [add_block]; exact hn173_3) | (show (Addr.add _ _).block ≠ _; rw [add_block]; exact hn173_3) | exact hn173_3) (.int .i64 ((rd_T34 l3 x11_2).f1.f2))).trans hx173_2
              replace hx173_3 := (cell_far (p := ⟨gb172, 3, none⟩) (by first | (rw [add_block]; exact hn173_3) | (show (Addr.add _ _).block ≠ _; rw [add_block]; exact hn173_3) | exact hn173_3) (.int .i64 ((rd_T34 l3 x11_2).f1.f2))).trans hx173_3
              replace hx173_4 := (cell_far (p := ⟨gb172, 3, none⟩) (by first | (rw [add_block]; exact hn173_3) | (show (Addr.add _ _).block ≠ _; rw [add_block]; exact hn173_3) | exact hn173_3) (.int .i64 ((rd_T34 l3 x11_2).f1.f2))).trans hx173_4
              clear hn173_0
              clear hn173_1
              clear hn173_2
              clear hn173_3
              replace p173 := eq_true p173
              replace q173 := eq_true q173
              have p174 : 0 ≤ (x11_2 : Int) := of_decide_eq_true (by first | (with_reducible assumption) | assumption)
              have q174 : x11_2 < (l3.length : Int) := of_decide_eq_true (by first | (with_reducible assumption) | assumption)
              obtain ⟨ad174, e174, hx174_0, hx174_1, hx174_2, hx174_3, hx174_4⟩ := at_T34 HR3.out x11_2 p174 q174
              obtain rfl : ad171 = ad174 := (by injection e174)
              have hn174_0 : ad171.block ≠ gb172 := Nat.ne_of_lt (Nat.lt_of_lt_of_le (by have := World.block_lt_of_cell? _ _ hx174_0; first | rwa [add_block] at this | exact this) GW172.out)
              have hn174_1 : ad171.block ≠ gb172 := Nat.ne_of_lt (Nat.lt_of_lt_of_le (by have := World.block_lt_of_cell? _ _ hx174_0; first | rwa [add_block] at this | exact this) GW172.out)
              have hn174_2 : ad171.block ≠ gb172 := Nat.ne_of_lt (Nat.lt_of_lt_of_le (by have := World.block_lt_of_cell? _ _ hx174_0; first | rwa [add_block] at this | exact this) GW172.out)
              have hn174_3 : ad171.block ≠ gb172 := Nat.ne_of_lt (Nat.lt_of_lt_of_le (by have := World.block_lt_of_cell? _ _ hx174_0; first | rwa [add_block] at this | exact this) GW172.out)
              replace hx174_0 := (HB.out.cell (World.block_lt_of_cell? w _ hx174_0)).trans hx174_0
              replace hx174_1 := (HB.out.cell (World.block_lt_of_cell? w _ hx174_1)).trans hx174_1
              replace hx174_2 := (HB.out.cell (World.block_lt_of_cell? w _ hx174_2)).trans hx174_2
              replace hx174_3 := (HB.out.cell (World.block_lt_of_cell? w _ hx174_3)).trans hx174_3
              replace hx174_4 := (HB.out.cell (World.block_lt_of_cell? w _ hx174_4)).trans hx174_4
              replace hx174_0 := (cell_far (p := ⟨gb172, 0, none⟩) (by first | (rw [add_block]; exact hn174_0) | (show (Addr.add _ _).block ≠ _; rw [add_block]; exact hn174_0) | exact hn174_0) (.int .i64 ((rd_T34 l3 x11_2).f1.f0.f0))).trans hx174_0
              replace hx174_1 := (cell_far (p := ⟨gb172, 0, none⟩) (by first | (rw [add_block]; exact hn174_0) | (show (Addr.add _ _).block ≠ _; rw [add_block]; exact hn174_0) | exact hn174_0) (.int .i64 ((rd_T34 l3 x11_2).f1.f0.f0))).trans hx174_1
              replace hx174_2 := (cell_far (p := ⟨gb172, 0, none⟩) (by first | (rw [add_block]; exact hn174_0) | (show (Addr.add _ _).block ≠ _; rw [add_block]; exact hn174_0) | exact hn174_0) (.int .i64 ((rd_T34 l3 x11_2).f1.f0.f0))).trans hx174_2
              replace hx174_3 := (cell_far (p := ⟨gb172, 0, none⟩) (by first | (rw [add_block]; exact hn174_0) | (show (Addr.add _ _).block ≠ _; rw [add_block]; exact hn174_0) | exact hn174_0) (.int .i64 ((rd_T34 l3 x11_2).f1.f0.f0))).trans hx174_3
              replace hx174_4 := (cell_far (p := ⟨gb172, 0, none⟩) (by first | (rw [add_block]; exact hn174_0) | (show (Addr.add _ _).block ≠ _; rw [add_block]; exact hn174_0) | exact hn174_0) (.int .i64 ((rd_T34 l3 x11_2).f1.f0.f0))).trans hx174_4
              replace hx174_0 := (cell_far (p := ⟨gb172, 1, none⟩) (by first | (rw [add_block]; exact hn174_1) | (show (Addr.add _ _).block ≠ _; rw [add_block]; exact hn174_1) | exact hn174_1) (.int .i64 ((rd_T34 l3 x11_2).f1.f0.f1))).trans hx174_0
              replace hx174_1 := (cell_far (p := ⟨gb172, 1, none⟩) (by first | (rw [add_block]; exact hn174_1) | (show (Addr.add _ _).block ≠ _; rw [add_block]; exact hn174_1) | exact hn174_1) (.int .i64 ((rd_T34 l3 x11_2).f1.f0.f1))).trans hx174_1
              replace hx174_2 := (cell_far (p := ⟨gb172, 1, none⟩) (by first | (rw [add_block]; exact hn174_1) | (show (Addr.add _ _).block ≠ _; rw [add_block]; exact hn174_1) | exact hn174_1) (.int .i64 ((rd_T34 l3 x11_2).f1.f0.f1))).trans hx174_2
              replace hx174_3 := (cell_far (p := ⟨gb172, 1, none⟩) (by first | (rw [add_block]; exact hn174_1) | (show (Addr.add _ _).block ≠ _; rw [add_block]; exact hn174_1) | exact hn174_1) (.int .i64 ((rd_T34 l3 x11_2).f1.f0.f1))).trans hx174_3
              replace hx174_4 := (cell_far (p := ⟨gb172, 1, none⟩) (by first | (rw [add_block]; exact hn174_1) | (show (Addr.add _ _).block ≠ _; rw [add_block]; exact hn174_1) | exact hn174_1) (.int .i64 ((rd_T34 l3 x11_2).f1.f0.f1))).trans hx174_4
              replace hx174_0 := (cell_far (p := ⟨gb172, 2, none⟩) (by first | (rw [add_block]; exact hn174_2) | (show (Addr.add _ _).block ≠ _; rw [add_block]; exact hn174_2) | exact hn174_2) (.int .i64 ((rd_T34 l3 x11_2).f1.f1))).trans hx174_0
              replace hx174_1 := (cell_far (p := ⟨gb172, 2, none⟩) (by first | (rw [add_block]; exact hn174_2) | (show (Addr.add _ _).block ≠ _; rw [add_block]; exact hn174_2) | exact hn174_2) (.int .i64 ((rd_T34 l3 x11_2).f1.f1))).trans hx174_1
              replace hx174_2 := (cell_far (p := ⟨gb172, 2, none⟩) (by first | (rw [add_block]; exact hn174_2) | (show (Addr.add _ _).block ≠ _; rw [add_block]; exact hn174_2) | exact hn174_2) (.int .i64 ((rd_T34 l3 x11_2).f1.f1))).trans hx174_2
              replace hx174_3 := (cell_far (p := ⟨gb172, 2, none⟩) (by first | (rw [add_block]; exact hn174_2) | (show (Addr.add _ _).block ≠ _; rw [add_block]; exact hn174_2) | exact hn174_2) (.int .i64 ((rd_T34 l3 x11_2).f1.f1))).trans hx174_3
              replace hx174_4 := (cell_far (p := ⟨gb172, 2, none⟩) (by first | (rw [add_block]; exact hn174_2) | (show (Addr.add _ _).block ≠ _; rw [add_block]; exact hn174_2) | exact hn174_2) (.int .i64 ((rd_T34 l3 x11_2).f1.f1))).trans hx174_4
              replace hx174_0 := (cell_far (p := ⟨gb172, 3, none⟩) (by first | (rw [add_block]; exact hn174_3) | (show (Addr.add _ _).block ≠ _; rw [add_block]; exact hn174_3) | exact hn174_3) (.int .i64 ((rd_T34 l3 x11_2).f1.f2))).trans hx174_0
              replace hx174_1 := (cell_far (p := ⟨gb172, 3, none⟩) (by first | (rw [add_block]; exact hn174_3) | (show (Addr.add _ _).block ≠ _; rw [add_block]; exact hn174_3) | exact hn174_3) (.int .i64 ((rd_T34 l3 x11_2).f1.f2))).trans hx174_1
              replace hx174_2 := (cell_far (p := ⟨gb172, 3, none⟩) (by first | (rw [add_block]; exact hn174_3) | (show (Addr.add _ _).block ≠ _; rw [add_block]; exact hn174_3) | exact hn174_3) (.int .i64 ((rd_T34 l3 x11_2).f1.f2))).trans hx174_2
              replace hx174_3 := (cell_far (p := ⟨gb172, 3, none⟩) (by first | (rw [add_block]; exact hn174_3) | (show (Addr.add _ _).block ≠ _; rw [add_block]; exact hn174_3) | exact hn174_3) (.int .i64 ((rd_T34 l3 x11_2).f1.f2))).trans hx174_3
              replace hx174_4 := (cell_far (p := ⟨gb172, 3, none⟩) (by first | (rw [add_block]; exact hn174_3) | (show (Addr.add _ _).block ≠ _; rw [add_block]; exact hn174_3) | exact hn174_3) (.int .i64 ((rd_T34 l3 x11_2).f1.f2))).trans hx174_4
              clear hn174_0
              clear hn174_1
              clear hn174_2
              clear hn174_3
              replace p174 := eq_true p174
              replace q174 := eq_true q174
              have hnb47 := NB172_169.out
              have hnc47 := NB169_172.out
              have hcz48_0 : w35.cell? ⟨gb172, 0, none⟩ = some (.int .i64 0) := (blk_cell BK172.out 0).trans rfl
              have hcz48_1 : w35.cell? ⟨gb172, 1, none⟩ = some (.int .i64 0) := (blk_cell BK172.out 1).trans rfl
              have hcz48_2 : w35.cell? ⟨gb172, 2, none⟩ = some (.int .i64 0) := (blk_cell BK172.out 2).trans rfl
              have hcz48_3 : w35.cell? ⟨gb172, 3, none⟩ = some (.int .i64 0) := (blk_cell BK172.out 3).trans rfl
              have hfz48_0 := blk_frozen BK172.out 0
              have hfz48_1 := blk_frozen BK172.out 1
              have hfz48_2 := blk_frozen BK172.out 2
              have hfz48_3 := blk_frozen BK172.out 3
              have hcz49_0 : w35.cell? ⟨gb169, 0, none⟩ = some (.string a0_0) := (blk_cell BK169.out 0).trans rfl
              have hcz49_1 : w35.cell? ⟨gb169, 1, none⟩ = some (.string a0_1) := (blk_cell BK169.out 1).trans rfl
              have hcz49_2 : w35.cell? ⟨gb169, 2, none⟩ = some (.int .i64 a0_2) := (blk_cell BK169.out 2).trans rfl
              have hcz49_3 : w35.cell? ⟨gb169, 3, none⟩ = some (.int .i64 a0_3) := (blk_cell BK169.out 3).trans rfl
              have hcz49_4 : w35.cell? ⟨gb169, 4, none⟩ = some (.int .i64 a0_4) := (blk_cell BK169.out 4).trans rfl
              have hcz49_5 : w35.cell? ⟨gb169, 5, none⟩ = some (.int .i64 a0_5) := (blk_cell BK169.out 5).trans rfl
              have hfz49_0 := blk_frozen BK169.out 0
              have hfz49_1 := blk_frozen BK169.out 1
              have hfz49_2 := blk_frozen BK169.out 2
              have hfz49_3 := blk_frozen BK169.out 3
              have hfz49_4 := blk_frozen BK169.out 4
              have hfz49_5 := blk_frozen BK169.out 5
              go_wp2
              go_meet
              case rel => exact ⟨_, (decide (((rd_T34 l3 x11_2).f1.f2) > (wrap64 (a2 + (wrap64 (400 * a0_3)))))), (by first | rfl | (simp; done) | (simp [*]; done)), H', ⟨by have := HJ5.out; have := HK2.out; first | omega | exact Nat.le_refl _⟩, ⟨by (with_reducible repeat (first | refine blk_drewN ?_ _ | refine blk_drew ?_ | refine blk_alloc ?_ _)); refine blk_far ?_ NB169_172.out _; (with_reducible repeat (first | refine blk_drewN ?_ _ | refine blk_drew ?_ | refine blk_alloc ?_ _)); refine blk_far ?_ NB169_172.out _; (with_reducible repeat (first | refine blk_drewN ?_ _ | refine blk_drew ?_ | refine blk_alloc ?_ _)); refine blk_far ?_ NB169_172.out _; (with_reducible repeat (first | refine blk_drewN ?_ _ | refine blk_drew ?_ | refine blk_alloc ?_ _)); refine blk_far ?_ NB169_172.out _; (with_reducible repeat (first | refine blk_drewN ?_ _ | refine blk_drew ?_ | refine blk_alloc ?_ _)); exact BK169.out⟩, ⟨by (with_reducible repeat (first | refine blk_drewN ?_ _ | refine blk_drew ?_ | refine blk_alloc ?_ _)); refine blk_put (cs := #[.int .i64 ((rd_T34 l3 x11_2).f1.f0.f0), .int .i64 ((rd_T34 l3 x11_2).f1.f0.f1), .int .i64 ((rd_T34 l3 x11_2).f1.f1), .int .i64 0]) ?_ 3 _ rfl; (with_reducible repeat (first | refine blk_drewN ?_ _ | refine blk_drew ?_ | refine blk_alloc ?_ _)); refine blk_put (cs := #[.int .i64 ((rd_T34 l3 x11_2).f1.f0.f0), .int .i64 ((rd_T34 l3 x11_2).f1.f0.f1), .int .i64 0, .int .i64 0]) ?_ 2 _ rfl; (with_reducible repeat (first | refine blk_drewN ?_ _ | refine blk_drew ?_ | refine blk_alloc ?_ _)); refine blk_put (cs := #[.int .i64 ((rd_T34 l3 x11_2).f1.f0.f0), .int .i64 0, .int .i64 0, .int .i64 0]) ?_ 1 _ rfl; (with_reducible repeat (first | refine blk_drewN ?_ _ | refine blk_drew ?_ | refine blk_alloc ?_ _)); refine blk_put (cs := #[.int .i64 0, .int .i64 0, .int .i64 0, .int .i64 0]) ?_ 0 _ rfl; (with_reducible repeat (first | refine blk_drewN ?_ _ | refine blk_drew ?_ | refine blk_alloc ?_ _)); exact BK172.out⟩, ⟨by repeat (first | (with_reducible first | exact HB.out | apply below_alloc | apply pw_below_drewN | apply below_drew1 | refine below_set ?_ GE169.out | refine below_set ?_ GE172.out) | exact HB.out)⟩⟩
             ·rw [if_neg c46] at H
              have c46b0 : (a0_2 == 1) = false := beq_eq_false_iff_ne.mpr c46
              have c46b1 : (a0_2 != 1) = true := bne_iff_ne.mpr c46
              have H' := Aside0.mk H
              clear H
              have p173 : 0 ≤ (x11_2 : Int) := of_decide_eq_true (by first | (with_reducible assumption) | assumption)
              have q173 : x11_2 < (l3.length : Int) := of_decide_eq_true (by first | (with_reducible assumption) | assumption)
              obtain ⟨ad173, e173, hx173_0, hx173_1, hx173_2, hx173_3, hx173_4⟩ := at_T34 HR3.out x11_2 p173 q173
              obtain rfl : ad171 = ad173 := (by injection e173)
              have hn173_0 : ad171.block ≠ gb172 := Nat.ne_of_lt (Nat.lt_of_lt_of_le (by have := World.block_lt_of_cell? _ _ hx173_0; first | rwa [add_block] at this | exact this) GW172.out)
              have hn173_1 : ad171.block ≠ gb172 := Nat.ne_of_lt (Nat.lt_of_lt_of_le (by have := World.block_lt_of_cell? _ _ hx173_0; first | rwa [add_block] at this | exact this) GW172.out)
              have hn173_2 : ad171.block ≠ gb172 := Nat.ne_of_lt (Nat.lt_of_lt_of_le (by have := World.block_lt_of_cell? _ _ hx173_0; first | rwa [add_block] at this | exact this) GW172.out)
              have hn173_3 : ad171.block ≠ gb172 := Nat.ne_of_lt (Nat.lt_of_lt_of_le (by have := World.block_lt_of_cell? _ _ hx173_0; first | rwa [add_block] at this | exact this) GW172.out)
              replace hx173_0 := (HB.out.cell (World.block_lt_of_cell? w _ hx173_0)).trans hx173_0
              replace hx173_1 := (HB.out.cell (World.block_lt_of_cell? w _ hx173_1)).trans hx173_1
              replace hx173_2 := (HB.out.cell (World.block_lt_of_cell? w _ hx173_2)).trans hx173_2
              replace hx173_3 := (HB.out.cell (World.block_lt_of_cell? w _ hx173_3)).trans hx173_3
              replace hx173_4 := (HB.out.cell (World.block_lt_of_cell? w _ hx173_4)).trans hx173_4
              replace hx173_0 := (cell_far (p := ⟨gb172, 0, none⟩) (by first | (rw [add_block]; exact hn173_0) | (show (Addr.add _ _).block ≠ _; rw [add_block]; exact hn173_0) | exact hn173_0) (.int .i64 ((rd_T34 l3 x11_2).f1.f0.f0))).trans hx173_0
              replace hx173_1 := (cell_far (p := ⟨gb172, 0, none⟩) (by first | (rw [add_block]; exact hn173_0) | (show (Addr.add _ _).block ≠ _; rw [add_block]; exact hn173_0) | exact hn173_0) (.int .i64 ((rd_T34 l3 x11_2).f1.f0.f0))).trans hx173_1
              replace hx173_2 := (cell_far (p := ⟨gb172, 0, none⟩) (by first | (rw [add_block]; exact hn173_0) | (show (Addr.add _ _).block ≠ _; rw [add_block]; exact hn173_0) | exact hn173_0) (.int .i64 ((rd_T34 l3 x11_2).f1.f0.f0))).trans hx173_2
              replace hx173_3 := (cell_far (p := ⟨gb172, 0, none⟩) (by first | (rw [add_block]; exact hn173_0) | (show (Addr.add _ _).block ≠ _; rw [add_block]; exact hn173_0) | exact hn173_0) (.int .i64 ((rd_T34 l3 x11_2).f1.f0.f0))).trans hx173_3
              replace hx173_4 := (cell_far (p := ⟨gb172, 0, none⟩) (by first | (rw [add_block]; exact hn173_0) | (show (Addr.add _ _).block ≠ _; rw [add_block]; exact hn173_0) | exact hn173_0) (.int .i64 ((rd_T34 l3 x11_2).f1.f0.f0))).trans hx173_4
              replace hx173_0 := (cell_far (p := ⟨gb172, 1, none⟩) (by first | (rw [add_block]; exact hn173_1) | (show (Addr.add _ _).block ≠ _; rw [add_block]; exact hn173_1) | exact hn173_1) (.int .i64 ((rd_T34 l3 x11_2).f1.f0.f1))).trans hx173_0
              replace hx173_1 := (cell_far (p := ⟨gb172, 1, none⟩) (by first | (rw [add_block]; exact hn173_1) | (show (Addr.add _ _).block ≠ _; rw [add_block]; exact hn173_1) | exact hn173_1) (.int .i64 ((rd_T34 l3 x11_2).f1.f0.f1))).trans hx173_1
              replace hx173_2 := (cell_far (p := ⟨gb172, 1, none⟩) (by first | (rw [add_block]; exact hn173_1) | (show (Addr.add _ _).block ≠ _; rw [add_block]; exact hn173_1) | exact hn173_1) (.int .i64 ((rd_T34 l3 x11_2).f1.f0.f1))).trans hx173_2
              replace hx173_3 := (cell_far (p := ⟨gb172, 1, none⟩) (by first | (rw [add_block]; exact hn173_1) | (show (Addr.add _ _).block ≠ _; rw [add_block]; exact hn173_1) | exact hn173_1) (.int .i64 ((rd_T34 l3 x11_2).f1.f0.f1))).trans hx173_3
              replace hx173_4 := (cell_far (p := ⟨gb172, 1, none⟩) (by first | (rw [add_block]; exact hn173_1) | (show (Addr.add _ _).block ≠ _; rw [add_block]; exact hn173_1) | exact hn173_1) (.int .i64 ((rd_T34 l3 x11_2).f1.f0.f1))).trans hx173_4
              replace hx173_0 := (cell_far (p := ⟨gb172, 2, none⟩) (by first | (rw [add_block]; exact hn173_2) | (show (Addr.add _ _).block ≠ _; rw [add_block]; exact hn173_2) | exact hn173_2) (.int .i64 ((rd_T34 l3 x11_2).f1.f1))).trans hx173_0
              replace hx173_1 := (cell_far (p := ⟨gb172, 2, none⟩) (by first | (rw [add_block]; exact hn173_2) | (show (Addr.add _ _).block ≠ _; rw [add_block]; exact hn173_2) | exact hn173_2) (.int .i64 ((rd_T34 l3 x11_2).f1.f1))).trans hx173_1
              replace hx173_2 := (cell_far (p := ⟨gb172, 2, none⟩) (by first | (rw [add_block]; exact hn173_2) | (show (Addr.add _ _).block ≠ _; rw [add_block]; exact hn173_2) | exact hn173_2) (.int .i64 ((rd_T34 l3 x11_2).f1.f1))).trans hx173_2
              replace hx173_3 := (cell_far (p := ⟨gb172, 2, none⟩) (by first | (rw [add_block]; exact hn173_2) | (show (Addr.add _ _).block ≠ _; rw [add_block]; exact hn173_2) | exact hn173_2) (.int .i64 ((rd_T34 l3 x11_2).f1.f1))).trans hx173_3
              replace hx173_4 := (cell_far (p := ⟨gb172, 2, none⟩) (by first | (rw [add_block]; exact hn173_2) | (show (Addr.add _ _).block ≠ _; rw [add_block]; exact hn173_2) | exact hn173_2) (.int .i64 ((rd_T34 l3 x11_2).f1.f1))).trans hx173_4
              replace hx173_0 := (cell_far (p := ⟨gb172, 3, none⟩) (by first | (rw [add_block]; exact hn173_3) | (show (Addr.add _ _).block ≠ _; rw [add_block]; exact hn173_3) | exact hn173_3) (.int .i64 ((rd_T34 l3 x11_2).f1.f2))).trans hx173_0
              replace hx173_1 := (cell_far (p := ⟨gb172, 3, none⟩) (by first | (rw [add_block]; exact hn173_3) | (show (Addr.add _ _).block ≠ _; rw [add_block]; exact hn173_3) | exact hn173_3) (.int .i64 ((rd_T34 l3 x11_2).f1.f2))).trans hx173_1
              replace hx173_2 := (cell_far (p := ⟨gb172, 3, none⟩) (by first | (rw [add_block]; exact hn173_3) | (show (Addr.add _ _).block ≠ _; rw [add_block]; exact hn173_3) | exact hn173_3) (.int .i64 ((rd_T34 l3 x11_2).f1.f2))).trans hx173_2
              replace hx173_3 := (cell_far (p := ⟨gb172, 3, none⟩) (by first | (rw [add_block]; exact hn173_3) | (show (Addr.add _ _).block ≠ _; rw [add_block]; exact hn173_3) | exact hn173_3) (.int .i64 ((rd_T34 l3 x11_2).f1.f2))).trans hx173_3
              replace hx173_4 := (cell_far (p := ⟨gb172, 3, none⟩) (by first | (rw [add_block]; exact hn173_3) | (show (Addr.add _ _).block ≠ _; rw [add_block]; exact hn173_3) | exact hn173_3) (.int .i64 ((rd_T34 l3 x11_2).f1.f2))).trans hx173_4
              clear hn173_0
              clear hn173_1
              clear hn173_2
              clear hn173_3
              replace p173 := eq_true p173
              replace q173 := eq_true q173
              have p174 : 0 ≤ (x11_2 : Int) := of_decide_eq_true (by first | (with_reducible assumption) | assumption)
              have q174 : x11_2 < (l3.length : Int) := of_decide_eq_true (by first | (with_reducible assumption) | assumption)
              obtain ⟨ad174, e174, hx174_0, hx174_1, hx174_2, hx174_3, hx174_4⟩ := at_T34 HR3.out x11_2 p174 q174
              obtain rfl : ad171 = ad174 := (by injection e174)
              have hn174_0 : ad171.block ≠ gb172 := Nat.ne_of_lt (Nat.lt_of_lt_of_le (by have := World.block_lt_of_cell? _ _ hx174_0; first | rwa [add_block] at this | exact this) GW172.out)
              have hn174_1 : ad171.block ≠ gb172 := Nat.ne_of_lt (Nat.lt_of_lt_of_le (by have := World.block_lt_of_cell? _ _ hx174_0; first | rwa [add_block] at this | exact this) GW172.out)
              have hn174_2 : ad171.block ≠ gb172 := Nat.ne_of_lt (Nat.lt_of_lt_of_le (by have := World.block_lt_of_cell? _ _ hx174_0; first | rwa [add_block] at this | exact this) GW172.out)
              have hn174_3 : ad171.block ≠ gb172 := Nat.ne_of_lt (Nat.lt_of_lt_of_le (by have := World.block_lt_of_cell? _ _ hx174_0; first | rwa [add_block] at this | exact this) GW172.out)
              replace hx174_0 := (HB.out.cell (World.block_lt_of_cell? w _ hx174_0)).trans hx174_0
              replace hx174_1 := (HB.out.cell (World.block_lt_of_cell? w _ hx174_1)).trans hx174_1
              replace hx174_2 := (HB.out.cell (World.block_lt_of_cell? w _ hx174_2)).trans hx174_2
              replace hx174_3 := (HB.out.cell (World.block_lt_of_cell? w _ hx174_3)).trans hx174_3
              replace hx174_4 := (HB.out.cell (World.block_lt_of_cell? w _ hx174_4)).trans hx174_4
              replace hx174_0 := (cell_far (p := ⟨gb172, 0, none⟩) (by first | (rw [add_block]; exact hn174_0) | (show (Addr.add _ _).block ≠ _; rw [add_block]; exact hn174_0) | exact hn174_0) (.int .i64 ((rd_T34 l3 x11_2).f1.f0.f0))).trans hx174_0
              replace hx174_1 := (cell_far (p := ⟨gb172, 0, none⟩) (by first | (rw [add_block]; exact hn174_0) | (show (Addr.add _ _).block ≠ _; rw [add_block]; exact hn174_0) | exact hn174_0) (.int .i64 ((rd_T34 l3 x11_2).f1.f0.f0))).trans hx174_1
              replace hx174_2 := (cell_far (p := ⟨gb172, 0, none⟩) (by first | (rw [add_block]; exact hn174_0) | (show (Addr.add _ _).block ≠ _; rw [add_block]; exact hn174_0) | exact hn174_0) (.int .i64 ((rd_T34 l3 x11_2).f1.f0.f0))).trans hx174_2
              replace hx174_3 := (cell_far (p := ⟨gb172, 0, none⟩) (by first | (rw [add_block]; exact hn174_0) | (show (Addr.add _ _).block ≠ _; rw [add_block]; exact hn174_0) | exact hn174_0) (.int .i64 ((rd_T34 l3 x11_2).f1.f0.f0))).trans hx174_3
              replace hx174_4 := (cell_far (p := ⟨gb172, 0, none⟩) (by first | (rw [add_block]; exact hn174_0) | (show (Addr.add _ _).block ≠ _; rw [add_block]; exact hn174_0) | exact hn174_0) (.int .i64 ((rd_T34 l3 x11_2).f1.f0.f0))).trans hx174_4
              replace hx174_0 := (cell_far (p := ⟨gb172, 1, none⟩) (by first | (rw [add_block]; exact hn174_1) | (show (Addr.add _ _).block ≠ _; rw [add_block]; exact hn174_1) | exact hn174_1) (.int .i64 ((rd_T34 l3 x11_2).f1.f0.f1))).trans hx174_0
              replace hx174_1 := (cell_far (p := ⟨gb172, 1, none⟩) (by first | (rw [add_block]; exact hn174_1) | (show (Addr.add _ _).block ≠ _; rw [add_block]; exact hn174_1) | exact hn174_1) (.int .i64 ((rd_T34 l3 x11_2).f1.f0.f1))).trans hx174_1
              replace hx174_2 := (cell_far (p := ⟨gb172, 1, none⟩) (by first | (rw [add_block]; exact hn174_1) | (show (Addr.add _ _).block ≠ _; rw [add_block]; exact hn174_1) | exact hn174_1) (.int .i64 ((rd_T34 l3 x11_2).f1.f0.f1))).trans hx174_2
              replace hx174_3 := (cell_far (p := ⟨gb172, 1, none⟩) (by first | (rw [add_block]; exact hn174_1) | (show (Addr.add _ _).block ≠ _; rw [add_block]; exact hn174_1) | exact hn174_1) (.int .i64 ((rd_T34 l3 x11_2).f1.f0.f1))).trans hx174_3
              replace hx174_4 := (cell_far (p := ⟨gb172, 1, none⟩) (by first | (rw [add_block]; exact hn174_1) | (show (Addr.add _ _).block ≠ _; rw [add_block]; exact hn174_1) | exact hn174_1) (.int .i64 ((rd_T34 l3 x11_2).f1.f0.f1))).trans hx174_4
              replace hx174_0 := (cell_far (p := ⟨gb172, 2, none⟩) (by first | (rw [add_block]; exact hn174_2) | (show (Addr.add _ _).block ≠ _; rw [add_block]; exact hn174_2) | exact hn174_2) (.int .i64 ((rd_T34 l3 x11_2).f1.f1))).trans hx174_0
              replace hx174_1 := (cell_far (p := ⟨gb172, 2, none⟩) (by first | (rw [add_block]; exact hn174_2) | (show (Addr.add _ _).block ≠ _; rw [add_block]; exact hn174_2) | exact hn174_2) (.int .i64 ((rd_T34 l3 x11_2).f1.f1))).trans hx174_1
              replace hx174_2 := (cell_far (p := ⟨gb172, 2, none⟩) (by first | (rw [add_block]; exact hn174_2) | (show (Addr.add _ _).block ≠ _; rw [add_block]; exact hn174_2) | exact hn174_2) (.int .i64 ((rd_T34 l3 x11_2).f1.f1))).trans hx174_2
              replace hx174_3 := (cell_far (p := ⟨gb172, 2, none⟩) (by first | (rw [add_block]; exact hn174_2) | (show (Addr.add _ _).block ≠ _; rw [add_block]; exact hn174_2) | exact hn174_2) (.int .i64 ((rd_T34 l3 x11_2).f1.f1))).trans hx174_3
              replace hx174_4 := (cell_far (p := ⟨gb172, 2, none⟩) (by first | (rw [add_block]; exact hn174_2) | (show (Addr.add _ _).block ≠ _; rw [add_block]; exact hn174_2) | exact hn174_2) (.int .i64 ((rd_T34 l3 x11_2).f1.f1))).trans hx174_4
              replace hx174_0 := (cell_far (p := ⟨gb172, 3, none⟩) (by first | (rw [add_block]; exact hn174_3) | (show (Addr.add _ _).block ≠ _; rw [add_block]; exact hn174_3) | exact hn174_3) (.int .i64 ((rd_T34 l3 x11_2).f1.f2))).trans hx174_0
              replace hx174_1 := (cell_far (p := ⟨gb172, 3, none⟩) (by first | (rw [add_block]; exact hn174_3) | (show (Addr.add _ _).block ≠ _; rw [add_block]; exact hn174_3) | exact hn174_3) (.int .i64 ((rd_T34 l3 x11_2).f1.f2))).trans hx174_1
              replace hx174_2 := (cell_far (p := ⟨gb172, 3, none⟩) (by first | (rw [add_block]; exact hn174_3) | (show (Addr.add _ _).block ≠ _; rw [add_block]; exact hn174_3) | exact hn174_3) (.int .i64 ((rd_T34 l3 x11_2).f1.f2))).trans hx174_2
              replace hx174_3 := (cell_far (p := ⟨gb172, 3, none⟩) (by first | (rw [add_block]; exact hn174_3) | (show (Addr.add _ _).block ≠ _; rw [add_block]; exact hn174_3) | exact hn174_3) (.int .i64 ((rd_T34 l3 x11_2).f1.f2))).trans hx174_3
              replace hx174_4 := (cell_far (p := ⟨gb172, 3, none⟩) (by first | (rw [add_block]; exact hn174_3) | (show (Addr.add _ _).block ≠ _; rw [add_block]; exact hn174_3) | exact hn174_3) (.int .i64 ((rd_T34 l3 x11_2).f1.f2))).trans hx174_4
              clear hn174_0
              clear hn174_1
              clear hn174_2
              clear hn174_3
              replace p174 := eq_true p174
              replace q174 := eq_true q174
              have hnb50 := NB172_169.out
              have hnc50 := NB169_172.out
              have hcz51_0 : w35.cell? ⟨gb172, 0, none⟩ = some (.int .i64 0) := (blk_cell BK172.out 0).trans rfl
              have hcz51_1 : w35.cell? ⟨gb172, 1, none⟩ = some (.int .i64 0) := (blk_cell BK172.out 1).trans rfl
              have hcz51_2 : w35.cell? ⟨gb172, 2, none⟩ = some (.int .i64 0) := (blk_cell BK172.out 2).trans rfl
              have hcz51_3 : w35.cell? ⟨gb172, 3, none⟩ = some (.int .i64 0) := (blk_cell BK172.out 3).trans rfl
              have hfz51_0 := blk_frozen BK172.out 0
              have hfz51_1 := blk_frozen BK172.out 1
              have hfz51_2 := blk_frozen BK172.out 2
              have hfz51_3 := blk_frozen BK172.out 3
              have hcz52_0 : w35.cell? ⟨gb169, 0, none⟩ = some (.string a0_0) := (blk_cell BK169.out 0).trans rfl
              have hcz52_1 : w35.cell? ⟨gb169, 1, none⟩ = some (.string a0_1) := (blk_cell BK169.out 1).trans rfl
              have hcz52_2 : w35.cell? ⟨gb169, 2, none⟩ = some (.int .i64 a0_2) := (blk_cell BK169.out 2).trans rfl
              have hcz52_3 : w35.cell? ⟨gb169, 3, none⟩ = some (.int .i64 a0_3) := (blk_cell BK169.out 3).trans rfl
              have hcz52_4 : w35.cell? ⟨gb169, 4, none⟩ = some (.int .i64 a0_4) := (blk_cell BK169.out 4).trans rfl
              have hcz52_5 : w35.cell? ⟨gb169, 5, none⟩ = some (.int .i64 a0_5) := (blk_cell BK169.out 5).trans rfl
              have hfz52_0 := blk_frozen BK169.out 0
              have hfz52_1 := blk_frozen BK169.out 1
              have hfz52_2 := blk_frozen BK169.out 2
              have hfz52_3 := blk_frozen BK169.out 3
              have hfz52_4 := blk_frozen BK169.out 4
              have hfz52_5 := blk_frozen BK169.out 5
              go_wp2
              go_meet
              case rel => exact ⟨_, (false), (by first | rfl | (simp; done) | (simp [*]; done)), H', ⟨by have := HJ5.out; have := HK2.out; first | omega | exact Nat.le_refl _⟩, ⟨by (with_reducible repeat (first | refine blk_drewN ?_ _ | refine blk_drew ?_ | refine blk_alloc ?_ _)); refine blk_far ?_ NB169_172.out _; (with_reducible repeat (first | refine blk_drewN ?_ _ | refine blk_drew ?_ | refine blk_alloc ?_ _)); refine blk_far ?_ NB169_172.out _; (with_reducible repeat (first | refine blk_drewN ?_ _ | refine blk_drew ?_ | refine blk_alloc ?_ _)); refine blk_far ?_ NB169_172.out _; (with_reducible repeat (first | refine blk_drewN ?_ _ | refine blk_drew ?_ | refine blk_alloc ?_ _)); refine blk_far ?_ NB169_172.out _; (with_reducible repeat (first | refine blk_drewN ?_ _ | refine blk_drew ?_ | refine blk_alloc ?_ _)); exact BK169.out⟩, ⟨by (with_reducible repeat (first | refine blk_drewN ?_ _ | refine blk_drew ?_ | refine blk_alloc ?_ _)); refine blk_put (cs := #[.int .i64 ((rd_T34 l3 x11_2).f1.f0.f0), .int .i64 ((rd_T34 l3 x11_2).f1.f0.f1), .int .i64 ((rd_T34 l3 x11_2).f1.f1), .int .i64 0]) ?_ 3 _ rfl; (with_reducible repeat (first | refine blk_drewN ?_ _ | refine blk_drew ?_ | refine blk_alloc ?_ _)); refine blk_put (cs := #[.int .i64 ((rd_T34 l3 x11_2).f1.f0.f0), .int .i64 ((rd_T34 l3 x11_2).f1.f0.f1), .int .i64 0, .int .i64 0]) ?_ 2 _ rfl; (with_reducible repeat (first | refine blk_drewN ?_ _ | refine blk_drew ?_ | refine blk_alloc ?_ _)); refine blk_put (cs := #[.int .i64 ((rd_T34 l3 x11_2).f1.f0.f0), .int .i64 0, .int .i64 0, .int .i64 0]) ?_ 1 _ rfl; (with_reducible repeat (first | refine blk_drewN ?_ _ | refine blk_drew ?_ | refine blk_alloc ?_ _)); refine blk_put (cs := #[.int .i64 0, .int .i64 0, .int .i64 0, .int .i64 0]) ?_ 0 _ rfl; (with_reducible repeat (first | refine blk_drewN ?_ _ | refine blk_drew ?_ | refine blk_alloc ?_ _)); exact BK172.out⟩, ⟨by repeat (first | (with_reducible first | exact HB.out | apply below_alloc | apply pw_below_drewN | apply below_drew1 | refine below_set ?_ GE169.out | refine below_set ?_ GE172.out) | exact HB.out)⟩⟩
        case rest =>
         clear HC34
         try clear p1
         try clear q1
         try clear hx1
         try clear p2
         try clear c3
         try clear c4
         try clear c5
         try clear p6
         try clear p17
         try clear q17
         try clear hx17
         try clear c32
         try clear c32b0
         try clear c33
         try clear c33b0
         try clear c36
         try clear c38
         try clear c38b0
         try clear c39
         try clear c39b0
         try clear c40
         try clear c40b0
         try clear c41
         try clear c43
         try clear c43b0
         try clear c44
         try clear c46
         try clear c46b0
         try clear c46b1
         try clear c47
         try clear c50
         try clear hcz37_0
         try clear hcz37_1
         try clear hcz37_2
         try clear hcz37_3
         try clear hcz42_0
         try clear hcz42_1
         try clear hcz42_2
         try clear hcz42_3
         try clear hcz45_0
         try clear hcz45_1
         try clear hcz45_2
         try clear hcz45_3
         try clear hcz48_0
         try clear hcz48_1
         try clear hcz48_2
         try clear hcz48_3
         try clear hcz49_0
         try clear hcz49_1
         try clear hcz49_2
         try clear hcz49_3
         try clear hcz49_4
         try clear hcz49_5
         try clear hcz51_0
         try clear hcz51_1
         try clear hcz51_2
         try clear hcz51_3
         try clear hcz52_0
         try clear hcz52_1
         try clear hcz52_2
         try clear hcz52_3
         try clear hcz52_4
         try clear hcz52_5
         try clear hfz29_4
         try clear hfz29_5
         try clear hfz37_0
         try clear hfz37_1
         try clear hfz37_2
         try clear hfz37_3
         try clear hfz42_0
         try clear hfz42_1
         try clear hfz42_2
         try clear hfz42_3
         try clear hfz45_0
         try clear hfz45_1
         try clear hfz45_2
         try clear hfz45_3
         try clear hfz48_0
         try clear hfz48_1
         try clear hfz48_2
         try clear hfz48_3
         try clear hfz49_0
         try clear hfz49_1
         try clear hfz49_2
         try clear hfz49_3
         try clear hfz49_4
         try clear hfz49_5
         try clear hfz51_0
         try clear hfz51_1
         try clear hfz51_2
         try clear hfz51_3
         try clear hfz52_0
         try clear hfz52_1
         try clear hfz52_2
         try clear hfz52_3
         try clear hfz52_4
         try clear hfz52_5
         try clear hx171_0
         try clear hx171_1
         try clear hx171_2
         try clear hx171_3
         try clear hx171_4
         try clear hx173_0
         try clear hx173_1
         try clear hx173_2
         try clear hx173_3
         try clear hx173_4
         try clear hx174_0
         try clear hx174_1
         try clear hx174_2
         try clear hx174_3
         try clear hx174_4
         try clear p171
         try clear p173
         try clear p174
         try clear p2
         try clear q171
         try clear q173
         try clear q174
         obtain ⟨kq, x95_33, rfl, HA, HJ33, BK169, BK172, HB⟩ := hcut
         cases kq with
         | zero => exact absurd HA.out (by simp [plenumref41_Fit.j2])
         | succ kj33 =>
          have H := HA.out
          clear HA
          simp only [plenumref41_Fit.j2] at H
          by_cases c53 : x95_33 = true
          ·subst c53
           have H1 : (some false) = some r := by rw [if_pos rfl] at H; exact H
           clear H
           have H := H1
           clear H1
           obtain rfl := Option.some.inj H
           go_wp2
           go_ret
           exact ⟨by first | rfl | (simp [errW_none, errW_some] <;> rfl) | (simp [*, errW_none, errW_some] <;> rfl), by repeat (first | (with_reducible first | exact HB.out | apply below_alloc | apply pw_below_drewN | apply below_drew1 | refine below_set ?_ GE169.out | refine below_set ?_ GE172.out) | exact HB.out)⟩
          ·replace c53 := Bool.eq_false_iff.mpr c53
           subst c53
           have H1 : (if ((rd_T34 l3 x11_2).f1.f0.f0) < 0 then (some false) else (if ((rd_T34 l3 x11_2).f1.f0.f0) > 3 then (some false) else (if ((rd_T34 l3 x11_2).f1.f0.f1) < (-1000000000000) then (some false) else (if ((rd_T34 l3 x11_2).f1.f0.f1) > 1000000000000 then (some false) else (if ((rd_T34 l3 x11_2).f1.f1) < 0 then (some false) else (if ((rd_T34 l3 x11_2).f1.f1) > 15 then (some false) else (plenumref41_Fit.l0 kj33 a2 l3 (wrap64 (x11_2 + 1)) a0_0 a0_1 a0_2 a0_3 a0_4 a0_5))))))) = some r := by rw [if_neg (show ¬ (false = true) by decide)] at H; exact H
           clear H
           have H := H1
           clear H1
           by_cases c54 : ((rd_T34 l3 x11_2).f1.f0.f0) < 0
           ·rw [if_pos c54] at H
            have c54b0 : decide (((rd_T34 l3 x11_2).f1.f0.f0) < 0) = true := decide_eq_true c54
            clear c54
            obtain rfl := Option.some.inj H
            have hnb55 := NB172_169.out
            have hnc55 := NB169_172.out
            have hcz56_0 : wc.cell? ⟨gb172, 0, none⟩ = some (.int .i64 ((rd_T34 l3 x11_2).f1.f0.f0)) := (blk_cell BK172.out 0).trans rfl
            have hcz56_1 : wc.cell? ⟨gb172, 1, none⟩ = some (.int .i64 ((rd_T34 l3 x11_2).f1.f0.f1)) := (blk_cell BK172.out 1).trans rfl
            have hcz56_2 : wc.cell? ⟨gb172, 2, none⟩ = some (.int .i64 ((rd_T34 l3 x11_2).f1.f1)) := (blk_cell BK172.out 2).trans rfl
            have hcz56_3 : wc.cell? ⟨gb172, 3, none⟩ = some (.int .i64 ((rd_T34 l3 x11_2).f1.f2)) := (blk_cell BK172.out 3).trans rfl
            have hfz56_0 := blk_frozen BK172.out 0
            have hfz56_1 := blk_frozen BK172.out 1
            have hfz56_2 := blk_frozen BK172.out 2
            have hfz56_3 := blk_frozen BK172.out 3
            go_wp2
            go_ret
            exact ⟨by first | rfl | (simp [errW_none, errW_some] <;> rfl) | (simp [*, errW_none, errW_some] <;> rfl), by repeat (first | (with_reducible first | exact HB.out | apply below_alloc | apply pw_below_drewN | apply below_drew1 | refine below_set ?_ GE169.out | refine below_set ?_ GE172.out) | exact HB.out)⟩
           ·rw [if_neg c54] at H
            have c54b0 : decide (((rd_T34 l3 x11_2).f1.f0.f0) < 0) = false := decide_eq_false c54
            clear c54
            by_cases c57 : ((rd_T34 l3 x11_2).f1.f0.f0) > 3
            ·rw [if_pos c57] at H
             have c57b0 : decide (3 < ((rd_T34 l3 x11_2).f1.f0.f0)) = true := decide_eq_true c57
             clear c57
             obtain rfl := Option.some.inj H
             have hnb58 := NB172_169.out
             have hnc58 := NB169_172.out
             have hcz59_0 : wc.cell? ⟨gb172, 0, none⟩ = some (.int .i64 ((rd_T34 l3 x11_2).f1.f0.f0)) := (blk_cell BK172.out 0).trans rfl
             have hcz59_1 : wc.cell? ⟨gb172, 1, none⟩ = some (.int .i64 ((rd_T34 l3 x11_2).f1.f0.f1)) := (blk_cell BK172.out 1).trans rfl
             have hcz59_2 : wc.cell? ⟨gb172, 2, none⟩ = some (.int .i64 ((rd_T34 l3 x11_2).f1.f1)) := (blk_cell BK172.out 2).trans rfl
             have hcz59_3 : wc.cell? ⟨gb172, 3, none⟩ = some (.int .i64 ((rd_T34 l3 x11_2).f1.f2)) := (blk_cell BK172.out 3).trans rfl
             have hfz59_0 := blk_frozen BK172.out 0
             have hfz59_1 := blk_frozen BK172.out 1
             have hfz59_2 := blk_frozen BK172.out 2
             have hfz59_3 := blk_frozen BK172.out 3
             go_wp2
             go_ret
             exact ⟨by first | rfl | (simp [errW_none, errW_some] <;> rfl) | (simp [*, errW_none, errW_some] <;> rfl), by repeat (first | (with_reducible first | exact HB.out | apply below_alloc | apply pw_below_drewN | apply below_drew1 | refine below_set ?_ GE169.out | refine below_set ?_ GE172.out) | exact HB.out)⟩
            ·rw [if_neg c57] at H
             have c57b0 : decide (3 < ((rd_T34 l3 x11_2).f1.f0.f0)) = false := decide_eq_false c57
             clear c57
             by_cases c60 : ((rd_T34 l3 x11_2).f1.f0.f1) < (-1000000000000)
             ·rw [if_pos c60] at H
              have c60b0 : decide (((rd_T34 l3 x11_2).f1.f0.f1) < (-1000000000000)) = true := decide_eq_true c60
              clear c60
              obtain rfl := Option.some.inj H
              have hnb61 := NB172_169.out
              have hnc61 := NB169_172.out
              have hcz62_0 : wc.cell? ⟨gb172, 0, none⟩ = some (.int .i64 ((rd_T34 l3 x11_2).f1.f0.f0)) := (blk_cell BK172.out 0).trans rfl
              have hcz62_1 : wc.cell? ⟨gb172, 1, none⟩ = some (.int .i64 ((rd_T34 l3 x11_2).f1.f0.f1)) := (blk_cell BK172.out 1).trans rfl
              have hcz62_2 : wc.cell? ⟨gb172, 2, none⟩ = some (.int .i64 ((rd_T34 l3 x11_2).f1.f1)) := (blk_cell BK172.out 2).trans rfl
              have hcz62_3 : wc.cell? ⟨gb172, 3, none⟩ = some (.int .i64 ((rd_T34 l3 x11_2).f1.f2)) := (blk_cell BK172.out 3).trans rfl
              have hfz62_0 := blk_frozen BK172.out 0
              have hfz62_1 := blk_frozen BK172.out 1
              have hfz62_2 := blk_frozen BK172.out 2
              have hfz62_3 := blk_frozen BK172.out 3
              go_wp2
              go_ret
              exact ⟨by first | rfl | (simp [errW_none, errW_some] <;> rfl) | (simp [*, errW_none, errW_some] <;> rfl), by repeat (first | (with_reducible first | exact HB.out | apply below_alloc | apply pw_below_drewN | apply below_drew1 | refine below_set ?_ GE169.out | refine below_set ?_ GE172.out) | exact HB.out)⟩
             ·rw [if_neg c60] at H
              have c60b0 : decide (((rd_T34 l3 x11_2).f1.f0.f1) < (-1000000000000)) = false := decide_eq_false c60
              clear c60
              by_cases c63 : ((rd_T34 l3 x11_2).f1.f0.f1) > 1000000000000
              ·rw [if_pos c63] at H
               have c63b0 : decide (1000000000000 < ((rd_T34 l3 x11_2).f1.f0.f1)) = true := decide_eq_true c63
               clear c63
               obtain rfl := Option.some.inj H
               have hnb64 := NB172_169.out
               have hnc64 := NB169_172.out
               have hcz65_0 : wc.cell? ⟨gb172, 0, none⟩ = some (.int .i64 ((rd_T34 l3 x11_2).f1.f0.f0)) := (blk_cell BK172.out 0).trans rfl
               have hcz65_1 : wc.cell? ⟨gb172, 1, none⟩ = some (.int .i64 ((rd_T34 l3 x11_2).f1.f0.f1)) := (blk_cell BK172.out 1).trans rfl
               have hcz65_2 : wc.cell? ⟨gb172, 2, none⟩ = some (.int .i64 ((rd_T34 l3 x11_2).f1.f1)) := (blk_cell BK172.out 2).trans rfl
               have hcz65_3 : wc.cell? ⟨gb172, 3, none⟩ = some (.int .i64 ((rd_T34 l3 x11_2).f1.f2)) := (blk_cell BK172.out 3).trans rfl
               have hfz65_0 := blk_frozen BK172.out 0
               have hfz65_1 := blk_frozen BK172.out 1
               have hfz65_2 := blk_frozen BK172.out 2
               have hfz65_3 := blk_frozen BK172.out 3
               go_wp2
               go_ret
               exact ⟨by first | rfl | (simp [errW_none, errW_some] <;> rfl) | (simp [*, errW_none, errW_some] <;> rfl), by repeat (first | (with_reducible first | exact HB.out | apply below_alloc | apply pw_below_drewN | apply below_drew1 | refine below_set ?_ GE169.out | refine below_set ?_ GE172.out) | exact HB.out)⟩
              ·rw [if_neg c63] at H
               have c63b0 : decide (1000000000000 < ((rd_T34 l3 x11_2).f1.f0.f1)) = false := decide_eq_false c63
               clear c63
               by_cases c66 : ((rd_T34 l3 x11_2).f1.f1) < 0
               ·rw [if_pos c66] at H
                have c66b0 : decide (((rd_T34 l3 x11_2).f1.f1) < 0) = true := decide_eq_true c66
                clear c66
                obtain rfl := Option.some.inj H
                have hnb67 := NB172_169.out
                have hnc67 := NB169_172.out
                have hcz68_0 : wc.cell? ⟨gb172, 0, none⟩ = some (.int .i64 ((rd_T34 l3 x11_2).f1.f0.f0)) := (blk_cell BK172.out 0).trans rfl
                have hcz68_1 : wc.cell? ⟨gb172, 1, none⟩ = some (.int .i64 ((rd_T34 l3 x11_2).f1.f0.f1)) := (blk_cell BK172.out 1).trans rfl
                have hcz68_2 : wc.cell? ⟨gb172, 2, none⟩ = some (.int .i64 ((rd_T34 l3 x11_2).f1.f1)) := (blk_cell BK172.out 2).trans rfl
                have hcz68_3 : wc.cell? ⟨gb172, 3, none⟩ = some (.int .i64 ((rd_T34 l3 x11_2).f1.f2)) := (blk_cell BK172.out 3).trans rfl
                have hfz68_0 := blk_frozen BK172.out 0
                have hfz68_1 := blk_frozen BK172.out 1
                have hfz68_2 := blk_frozen BK172.out 2
                have hfz68_3 := blk_frozen BK172.out 3
                go_wp2
                go_ret
                exact ⟨by first | rfl | (simp [errW_none, errW_some] <;> rfl) | (simp [*, errW_none, errW_some] <;> rfl), by repeat (first | (with_reducible first | exact HB.out | apply below_alloc | apply pw_below_drewN | apply below_drew1 | refine below_set ?_ GE169.out | refine below_set ?_ GE172.out) | exact HB.out)⟩
               ·rw [if_neg c66] at H
                have c66b0 : decide (((rd_T34 l3 x11_2).f1.f1) < 0) = false := decide_eq_false c66
                clear c66
                by_cases c69 : ((rd_T34 l3 x11_2).f1.f1) > 15
                ·rw [if_pos c69] at H
                 have c69b0 : decide (15 < ((rd_T34 l3 x11_2).f1.f1)) = true := decide_eq_true c69
                 clear c69
                 obtain rfl := Option.some.inj H
                 have hnb70 := NB172_169.out
                 have hnc70 := NB169_172.out
                 have hcz71_0 : wc.cell? ⟨gb172, 0, none⟩ = some (.int .i64 ((rd_T34 l3 x11_2).f1.f0.f0)) := (blk_cell BK172.out 0).trans rfl
                 have hcz71_1 : wc.cell? ⟨gb172, 1, none⟩ = some (.int .i64 ((rd_T34 l3 x11_2).f1.f0.f1)) := (blk_cell BK172.out 1).trans rfl
                 have hcz71_2 : wc.cell? ⟨gb172, 2, none⟩ = some (.int .i64 ((rd_T34 l3 x11_2).f1.f1)) := (blk_cell BK172.out 2).trans rfl
                 have hcz71_3 : wc.cell? ⟨gb172, 3, none⟩ = some (.int .i64 ((rd_T34 l3 x11_2).f1.f2)) := (blk_cell BK172.out 3).trans rfl
                 have hfz71_0 := blk_frozen BK172.out 0
                 have hfz71_1 := blk_frozen BK172.out 1
                 have hfz71_2 := blk_frozen BK172.out 2
                 have hfz71_3 := blk_frozen BK172.out 3
                 go_wp2
                 go_ret
                 exact ⟨by first | rfl | (simp [errW_none, errW_some] <;> rfl) | (simp [*, errW_none, errW_some] <;> rfl), by repeat (first | (with_reducible first | exact HB.out | apply below_alloc | apply pw_below_drewN | apply below_drew1 | refine below_set ?_ GE169.out | refine below_set ?_ GE172.out) | exact HB.out)⟩
                ·rw [if_neg c69] at H
                 have c69b0 : decide (15 < ((rd_T34 l3 x11_2).f1.f1)) = false := decide_eq_false c69
                 clear c69
                 have H' := Aside0.mk H
                 clear H
                 have hnb72 := NB172_169.out
                 have hnc72 := NB169_172.out
                 have hcz73_0 : wc.cell? ⟨gb172, 0, none⟩ = some (.int .i64 ((rd_T34 l3 x11_2).f1.f0.f0)) := (blk_cell BK172.out 0).trans rfl
                 have hcz73_1 : wc.cell? ⟨gb172, 1, none⟩ = some (.int .i64 ((rd_T34 l3 x11_2).f1.f0.f1)) := (blk_cell BK172.out 1).trans rfl
                 have hcz73_2 : wc.cell? ⟨gb172, 2, none⟩ = some (.int .i64 ((rd_T34 l3 x11_2).f1.f1)) := (blk_cell BK172.out 2).trans rfl
                 have hcz73_3 : wc.cell? ⟨gb172, 3, none⟩ = some (.int .i64 ((rd_T34 l3 x11_2).f1.f2)) := (blk_cell BK172.out 3).trans rfl
                 have hfz73_0 := blk_frozen BK172.out 0
                 have hfz73_1 := blk_frozen BK172.out 1
                 have hfz73_2 := blk_frozen BK172.out 2
                 have hfz73_3 := blk_frozen BK172.out 3
                 go_wp2
                 go_roundg kj33
                 case measure => have := HJ5.out; have := HK2.out; have := HJ33.out; omega
                 case rel => exact ⟨(wrap64 (x11_2 + 1)), (by first | rfl | (simp; done) | (simp [*]; done)), H', ⟨by have := HJ5.out; have := HK2.out; have := HJ33.out; omega⟩, ⟨by (with_reducible repeat (first | refine blk_drewN ?_ _ | refine blk_drew ?_ | refine blk_alloc ?_ _)); exact BK169.out⟩, ⟨by repeat (first | (with_reducible first | exact HB.out | apply below_alloc | apply pw_below_drewN | apply below_drew1 | refine below_set ?_ GE169.out | refine below_set ?_ GE172.out) | exact HB.out)⟩⟩
       ·rw [if_neg c33] at H
        exact absurd H (by simp)
      ·rw [if_neg c32] at H
       have c32b0 : decide (x11_2 < (l3.length : Int)) = false := decide_eq_false c32
       clear c32
       obtain rfl := Option.some.inj H
       go_wp2
       go_ret
       exact ⟨by first | rfl | (simp [errW_none, errW_some] <;> rfl) | (simp [*, errW_none, errW_some] <;> rfl), by repeat (first | (with_reducible first | exact HB.out | apply below_alloc | apply pw_below_drewN | apply below_drew1 | refine below_set ?_ GE169.out) | exact HB.out)⟩
end Go.Proofs.YtbccjcdmpiolpaaDoor.T
end
section
namespace Go.Proofs.YtbccjcdmpiolpaaDoor.T
open Go.RowKit Go.Proofs.YtbccjcdmpiolpaaDoorW.PrintWords Go.Proofs.YtbccjcdmpiolpaaDoorW.PrintLast Go.Proofs.YtbccjcdmpiolpaaDoorW.PrintMore
attribute [local go_sem] max2_int min2_int max_two min_two max_three min_three max_four min_four
set_option linter.unusedVariables false
set_option linter.unusedSimpArgs false
end Go.Proofs.YtbccjcdmpiolpaaDoor.T
end
section
namespace Go.Proofs.YtbccjcdmpiolpaaDoor.T
open Go.RowKit Go.Proofs.YtbccjcdmpiolpaaDoor.Pure Go.Proofs.YtbccjcdmpiolpaaDoorW.PrintWords Go.Proofs.YtbccjcdmpiolpaaDoorW.PrintLast Go.Proofs.YtbccjcdmpiolpaaDoorW.PrintMore
set_option linter.unusedVariables false
set_option linter.unusedSimpArgs false
attribute [local go_sem] max2_int min2_int max_two min_two
def lowB (b : Int) : Bool := decide (97 ≤ b) && decide (b ≤ 122)
def digB' (b : Int) : Bool := decide (48 ≤ b) && decide (b ≤ 57)
def nmB (b : Int) : Bool := lowB b || (digB' b || b == 95)
def allNm (s : ByteArray) : Bool := (List.range s.size).all fun j => nmB (bt s (j : Int))
def nameS (s : ByteArray) : Bool := decide (1 ≤ s.size) && decide (s.size ≤ 24) && lowB (bt s 0) && allNm s
def RunPost (s : ByteArray) (w : World) (e : Ending) (w' : World) : Prop := ∃ e0 : Nat, e = .returned (.int .i64 (e0 : Int)) ∧ Below w.heap.size w w' ∧ e0 ≤ s.size ∧ (∀ j : Nat, j < e0 → nmB (bt s (j : Int)) = true) ∧ (e0 < s.size → nmB (bt s (e0 : Int)) = false)
theorem intOf_int' (k : IntKind) (x : Int) : intOf (.int k x) = x := rfl
set_option maxHeartbeats 16000000 in
set_option maxRecDepth 100000 in
theorem run_calls (s : ByteArray) (gs : Nat) (w : World) (hG : Glob w) (hs : w.heap[gs]? = some (.cells #[.string s] 9 (0, 0))) (hz : s.size ≤ 140737488355327) :
  Calls Tryd.prog 52 #[.string s, .int .i64 0, .func (.func 53) #[] #[.pointer (some ⟨gs, 0, none⟩)]] w fun e w' => RunPost s w e w' := by
 have HG := Aside0.mk hG
 have HS := Aside0.mk hs
 clear hG hs
 go_enter Tryd.func52, Tryd.ntmps52
 go_wp2
 go_loopw [1] (fun i wr => ∃ k : Nat, i = .int .i64 (k : Int) ∧ k ≤ s.size ∧ Aside0 (Below w.heap.size w wr) ∧ Aside0 (∀ j : Nat, j < k → nmB (bt s (j : Int)) = true)) (fun i _ => s.size - (intOf i).toNat)
 case atStart => exact ⟨0, rfl, Nat.zero_le _, ⟨Below.refl _ _⟩, ⟨fun j hj => absurd hj (Nat.not_lt_zero j)⟩⟩
 case round =>
  obtain ⟨k, hk, hle, HB, HA⟩ := hrel
  subst hk
  have HLE := Aside0.mk hle
  by_cases hlt : k < s.size
  ·have hl1 : decide ((k : Int) < (s.size : Int)) = true := decide_eq_true (by omega)
   have hl2 : decide (k < s.size) = true := decide_eq_true hlt
   have c0 := (blk_cell (blk_below HS.out HB.out) 0).trans rfl
   have hbk : (s[k].toNat : Int) = bt s (k : Int) := bt_at s k hlt
   have hwk : wrap64 ((k : Int) + 1) = ((k + 1 : Nat) : Int) := by rw [w64 (by omega) (by omega)]; omega
   have HLT := Aside0.mk hlt
   clear hle
   by_cases k1 : bt s (k : Int) < 48
   ·have d0 : decide (97 ≤ bt s (k : Int)) = false := decide_eq_false (by omega)
    have p0 : (97 ≤ bt s (k : Int)) = False := eq_false (by omega)
    have n0 : (bt s (k : Int) < 97) = True := eq_true (by omega)
    have d1 : decide (bt s (k : Int) ≤ 122) = true := decide_eq_true (by omega)
    have p1 : (bt s (k : Int) ≤ 122) = True := eq_true (by omega)
    have n1 : (122 < bt s (k : Int)) = False := eq_false (by omega)
    have d2 : decide (48 ≤ bt s (k : Int)) = false := decide_eq_false (by omega)
    have p2 : (48 ≤ bt s (k : Int)) = False := eq_false (by omega)
    have n2 : (bt s (k : Int) < 48) = True := eq_true (by omega)
    have d3 : decide (bt s (k : Int) ≤ 57) = true := decide_eq_true (by omega)
    have p3 : (bt s (k : Int) ≤ 57) = True := eq_true (by omega)
    have n3 : (57 < bt s (k : Int)) = False := eq_false (by omega)
    have q9 : (bt s (k : Int) == 95) = false := beq_false_of_ne (by omega)
    have r9 : (bt s (k : Int) = 95) = False := eq_false (by omega)
    have HNM := Aside0.mk (show nmB (bt s (k : Int)) = false by unfold nmB lowB digB'; rw [d0, d1, d2, d3, q9]; rfl)
    clear k1
    go_wp2
    go_ret
    exact ⟨k, rfl, HB.out, HLE.out, HA.out, fun _ => HNM.out⟩
   by_cases k2 : bt s (k : Int) ≤ 57
   ·have d0 : decide (97 ≤ bt s (k : Int)) = false := decide_eq_false (by omega)
    have p0 : (97 ≤ bt s (k : Int)) = False := eq_false (by omega)
    have n0 : (bt s (k : Int) < 97) = True := eq_true (by omega)
    have d1 : decide (bt s (k : Int) ≤ 122) = true := decide_eq_true (by omega)
    have p1 : (bt s (k : Int) ≤ 122) = True := eq_true (by omega)
    have n1 : (122 < bt s (k : Int)) = False := eq_false (by omega)
    have d2 : decide (48 ≤ bt s (k : Int)) = true := decide_eq_true (by omega)
    have p2 : (48 ≤ bt s (k : Int)) = True := eq_true (by omega)
    have n2 : (bt s (k : Int) < 48) = False := eq_false (by omega)
    have d3 : decide (bt s (k : Int) ≤ 57) = true := decide_eq_true (by omega)
    have p3 : (bt s (k : Int) ≤ 57) = True := eq_true (by omega)
    have n3 : (57 < bt s (k : Int)) = False := eq_false (by omega)
    have q9 : (bt s (k : Int) == 95) = false := beq_false_of_ne (by omega)
    have r9 : (bt s (k : Int) = 95) = False := eq_false (by omega)
    have HNM := Aside0.mk (show nmB (bt s (k : Int)) = true by unfold nmB lowB digB'; rw [d0, d1, d2, d3, q9]; rfl)
    clear k1 k2
    go_wp2
    exact ⟨⟨k + 1, by first | rw [hwk] | rfl, HLT.out, HB, ⟨fun j hj => by
     by_cases e : j = k
     ·rw [e]
      exact HNM.out
     ·exact HA.out j (by omega)⟩⟩, by first | (rw [intOf_int', intOf_int', hwk, Int.toNat_natCast, Int.toNat_natCast]; have := HLT.out; omega) | (rw [intOf_int', intOf_int']; have := HLT.out; omega)⟩
   by_cases k3 : bt s (k : Int) = 95
   ·have d0 : decide (97 ≤ bt s (k : Int)) = false := decide_eq_false (by omega)
    have p0 : (97 ≤ bt s (k : Int)) = False := eq_false (by omega)
    have n0 : (bt s (k : Int) < 97) = True := eq_true (by omega)
    have d1 : decide (bt s (k : Int) ≤ 122) = true := decide_eq_true (by omega)
    have p1 : (bt s (k : Int) ≤ 122) = True := eq_true (by omega)
    have n1 : (122 < bt s (k : Int)) = False := eq_false (by omega)
    have d2 : decide (48 ≤ bt s (k : Int)) = true := decide_eq_true (by omega)
    have p2 : (48 ≤ bt s (k : Int)) = True := eq_true (by omega)
    have n2 : (bt s (k : Int) < 48) = False := eq_false (by omega)
    have d3 : decide (bt s (k : Int) ≤ 57) = false := decide_eq_false (by omega)
    have p3 : (bt s (k : Int) ≤ 57) = False := eq_false (by omega)
    have n3 : (57 < bt s (k : Int)) = True := eq_true (by omega)
    have q9 : (bt s (k : Int) == 95) = true := beq_iff_eq.mpr (by omega)
    have r9 : (bt s (k : Int) = 95) = True := eq_true (by omega)
    have HNM := Aside0.mk (show nmB (bt s (k : Int)) = true by unfold nmB lowB digB'; rw [d0, d1, d2, d3, q9]; rfl)
    clear k1 k2 k3
    go_wp2
    exact ⟨⟨k + 1, by first | rw [hwk] | rfl, HLT.out, HB, ⟨fun j hj => by
     by_cases e : j = k
     ·rw [e]
      exact HNM.out
     ·exact HA.out j (by omega)⟩⟩, by first | (rw [intOf_int', intOf_int', hwk, Int.toNat_natCast, Int.toNat_natCast]; have := HLT.out; omega) | (rw [intOf_int', intOf_int']; have := HLT.out; omega)⟩
   by_cases k4 : bt s (k : Int) < 97
   ·have d0 : decide (97 ≤ bt s (k : Int)) = false := decide_eq_false (by omega)
    have p0 : (97 ≤ bt s (k : Int)) = False := eq_false (by omega)
    have n0 : (bt s (k : Int) < 97) = True := eq_true (by omega)
    have d1 : decide (bt s (k : Int) ≤ 122) = true := decide_eq_true (by omega)
    have p1 : (bt s (k : Int) ≤ 122) = True := eq_true (by omega)
    have n1 : (122 < bt s (k : Int)) = False := eq_false (by omega)
    have d2 : decide (48 ≤ bt s (k : Int)) = true := decide_eq_true (by omega)
    have p2 : (48 ≤ bt s (k : Int)) = True := eq_true (by omega)
    have n2 : (bt s (k : Int) < 48) = False := eq_false (by omega)
    have d3 : decide (bt s (k : Int) ≤ 57) = false := decide_eq_false (by omega)
    have p3 : (bt s (k : Int) ≤ 57) = False := eq_false (by omega)
    have n3 : (57 < bt s (k : Int)) = True := eq_true (by omega)
    have q9 : (bt s (k : Int) == 95) = false := beq_false_of_ne (by omega)
    have r9 : (bt s (k : Int) = 95) = False := eq_false (by omega)
    have HNM := Aside0.mk (show nmB (bt s (k : Int)) = false by unfold nmB lowB digB'; rw [d0, d1, d2, d3, q9]; rfl)
    clear k1 k2 k3 k4
    go_wp2
    go_ret
    exact ⟨k, rfl, HB.out, HLE.out, HA.out, fun _ => HNM.out⟩
   by_cases k5 : bt s (k : Int) ≤ 122
   ·have d0 : decide (97 ≤ bt s (k : Int)) = true := decide_eq_true (by omega)
    have p0 : (97 ≤ bt s (k : Int)) = True := eq_true (by omega)
    have n0 : (bt s (k : Int) < 97) = False := eq_false (by omega)
    have d1 : decide (bt s (k : Int) ≤ 122) = true := decide_eq_true (by omega)
    have p1 : (bt s (k : Int) ≤ 122) = True := eq_true (by omega)
    have n1 : (122 < bt s (k : Int)) = False := eq_false (by omega)
    have d2 : decide (48 ≤ bt s (k : Int)) = true := decide_eq_true (by omega)
    have p2 : (48 ≤ bt s (k : Int)) = True := eq_true (by omega)
    have n2 : (bt s (k : Int) < 48) = False := eq_false (by omega)
    have d3 : decide (bt s (k : Int) ≤ 57) = false := decide_eq_false (by omega)
    have p3 : (bt s (k : Int) ≤ 57) = False := eq_false (by omega)
    have n3 : (57 < bt s (k : Int)) = True := eq_true (by omega)
    have q9 : (bt s (k : Int) == 95) = false := beq_false_of_ne (by omega)
    have r9 : (bt s (k : Int) = 95) = False := eq_false (by omega)
    have HNM := Aside0.mk (show nmB (bt s (k : Int)) = true by unfold nmB lowB digB'; rw [d0, d1, d2, d3, q9]; rfl)
    clear k1 k2 k3 k4 k5
    go_wp2
    exact ⟨⟨k + 1, by first | rw [hwk] | rfl, HLT.out, HB, ⟨fun j hj => by
     by_cases e : j = k
     ·rw [e]
      exact HNM.out
     ·exact HA.out j (by omega)⟩⟩, by first | (rw [intOf_int', intOf_int', hwk, Int.toNat_natCast, Int.toNat_natCast]; have := HLT.out; omega) | (rw [intOf_int', intOf_int']; have := HLT.out; omega)⟩
   ·have d0 : decide (97 ≤ bt s (k : Int)) = true := decide_eq_true (by omega)
    have p0 : (97 ≤ bt s (k : Int)) = True := eq_true (by omega)
    have n0 : (bt s (k : Int) < 97) = False := eq_false (by omega)
    have d1 : decide (bt s (k : Int) ≤ 122) = false := decide_eq_false (by omega)
    have p1 : (bt s (k : Int) ≤ 122) = False := eq_false (by omega)
    have n1 : (122 < bt s (k : Int)) = True := eq_true (by omega)
    have d2 : decide (48 ≤ bt s (k : Int)) = true := decide_eq_true (by omega)
    have p2 : (48 ≤ bt s (k : Int)) = True := eq_true (by omega)
    have n2 : (bt s (k : Int) < 48) = False := eq_false (by omega)
    have d3 : decide (bt s (k : Int) ≤ 57) = false := decide_eq_false (by omega)
    have p3 : (bt s (k : Int) ≤ 57) = False := eq_false (by omega)
    have n3 : (57 < bt s (k : Int)) = True := eq_true (by omega)
    have q9 : (bt s (k : Int) == 95) = false := beq_false_of_ne (by omega)
    have r9 : (bt s (k : Int) = 95) = False := eq_false (by omega)
    have HNM := Aside0.mk (show nmB (bt s (k : Int)) = false by unfold nmB lowB digB'; rw [d0, d1, d2, d3, q9]; rfl)
    clear k1 k2 k3 k4 k5
    go_wp2
    go_ret
    exact ⟨k, rfl, HB.out, HLE.out, HA.out, fun _ => HNM.out⟩
  ·have hl1 : decide ((k : Int) < (s.size : Int)) = false := decide_eq_false (by omega)
   have hl2 : decide (k < s.size) = false := decide_eq_false hlt
   have HEQ := Aside0.mk (show k = s.size by omega)
   clear hlt hle
   go_wp2
   go_ret
   exact ⟨k, rfl, HB.out, HLE.out, HA.out, fun h => absurd h (by have := HEQ.out; omega)⟩
theorem all_run {s : ByteArray} {e0 : Nat} (h0 : e0 ≤ s.size) (h1 : ∀ j : Nat, j < e0 → nmB (bt s (j : Int)) = true) (h2 : e0 < s.size → nmB (bt s (e0 : Int)) = false) : ((e0 : Int) == (s.size : Int)) = allNm s := by
 by_cases e : e0 = s.size
 ·rw [e, beq_self_eq_true]
  symm
  unfold allNm
  rw [List.all_eq_true]
  intro j hj
  rw [List.mem_range] at hj
  exact h1 j (by omega)
 ·rw [beq_false_of_ne (by omega)]
  symm
  rw [Bool.eq_false_iff]
  intro h
  unfold allNm at h
  rw [List.all_eq_true] at h
  have := h e0 (List.mem_range.mpr (by omega))
  rw [h2 (by omega)] at this
  cases this
def lexer_Name.f (a0 : ByteArray) : Option (Bool) := if a0.size ≤ 140737488355327 then some (nameS a0) else none
set_option maxHeartbeats 16000000 in
set_option maxRecDepth 100000 in
theorem lexer_Name.calls (a0 : ByteArray) (r : Bool) (w : World) (hG : Glob w) (h : lexer_Name.f a0 = some r) :
  Calls Tryd.prog 29 #[.string a0] w fun e w' => e = .returned (.bool r) ∧ Below w.heap.size w w' := by
 unfold lexer_Name.f at h
 by_cases hz : a0.size ≤ 140737488355327
 case neg =>
  rw [if_neg hz] at h
  cases h
 rw [if_pos hz] at h
 injection h with h
 subst h
 have HG := Aside0.mk hG
 have HZ := Aside0.mk hz
 clear hG
 by_cases k1 : a0.size < 1
 ·have z1 : decide ((a0.size : Int) < 1) = true := decide_eq_true (by omega)
  have z1P : ((a0.size : Int) < 1) = True := eq_true (by omega)
  have z2 : decide (a0.size < 1) = true := decide_eq_true (by omega)
  have z2P : (a0.size < 1) = True := eq_true (by omega)
  have HR := Aside0.mk (show nameS a0 = false by
   unfold nameS
   rw [decide_eq_false (show ¬ 1 ≤ a0.size by omega), Bool.false_and, Bool.false_and, Bool.false_and])
  clear k1
  go_enter Tryd.func29, Tryd.ntmps29
  go_wp2_with ((with_reducible refine gate_dst (N := 1) rfl ?_); refine box_event ?hg (N := 1) ?hd (cs := #[.string a0]) (t := 9) ?hr ?_; (case hd => rfl); (case hg => rfl); (case hr => first | (go_simp; done) | (go_simp; rfl)); intro gs hgz w1 hbox hb; have HS1 := Aside0.mk hbox; have HB1 := Aside0.mk hb; have c0 := (blk_cell hbox 0).trans rfl; clear hb hbox hgz)
  go_ret
  exact ⟨by rw [HR.out]; rfl, HB1.out⟩
 by_cases k2 : 24 < a0.size
 ·have z1 : decide ((a0.size : Int) < 1) = false := decide_eq_false (by omega)
  have z1P : ((a0.size : Int) < 1) = False := eq_false (by omega)
  have z2 : decide (a0.size < 1) = false := decide_eq_false (by omega)
  have z2P : (a0.size < 1) = False := eq_false (by omega)
  have z3 : decide (24 < (a0.size : Int)) = true := decide_eq_true (by omega)
  have z3P : (24 < (a0.size : Int)) = True := eq_true (by omega)
  have z4 : decide (24 < a0.size) = true := decide_eq_true (by omega)
  have z4P : (24 < a0.size) = True := eq_true (by omega)
  have HR := Aside0.mk (show nameS a0 = false by
   unfold nameS
   rw [decide_eq_false (show ¬ a0.size ≤ 24 by omega), Bool.and_false, Bool.false_and, Bool.false_and])
  clear k1 k2
  go_enter Tryd.func29, Tryd.ntmps29
  go_wp2_with ((with_reducible refine gate_dst (N := 1) rfl ?_); refine box_event ?hg (N := 1) ?hd (cs := #[.string a0]) (t := 9) ?hr ?_; (case hd => rfl); (case hg => rfl); (case hr => first | (go_simp; done) | (go_simp; rfl)); intro gs hgz w1 hbox hb; have HS1 := Aside0.mk hbox; have HB1 := Aside0.mk hb; have c0 := (blk_cell hbox 0).trans rfl; clear hb hbox hgz)
  go_ret
  exact ⟨by rw [HR.out]; rfl, HB1.out⟩
 have z1 : decide ((a0.size : Int) < 1) = false := decide_eq_false (by omega)
 have z1P : ((a0.size : Int) < 1) = False := eq_false (by omega)
 have z2 : decide (a0.size < 1) = false := decide_eq_false (by omega)
 have z2P : (a0.size < 1) = False := eq_false (by omega)
 have z3 : decide (24 < (a0.size : Int)) = false := decide_eq_false (by omega)
 have z3P : (24 < (a0.size : Int)) = False := eq_false (by omega)
 have z4 : decide (24 < a0.size) = false := decide_eq_false (by omega)
 have z4P : (24 < a0.size) = False := eq_false (by omega)
 have hpos : 0 < a0.size := by omega
 have hbk : (a0[0].toNat : Int) = bt a0 ((0 : Nat) : Int) := bt_at a0 0 hpos
 have hbk0 : bt a0 ((0 : Nat) : Int) = bt a0 0 := rfl
 rw [hbk0] at hbk
 have zp : decide (0 < a0.size) = true := decide_eq_true hpos
 by_cases k3 : bt a0 0 < 97
 ·have d1 : decide (bt a0 0 < 97) = true := decide_eq_true (by omega)
  have d1P : (bt a0 0 < 97) = True := eq_true (by omega)
  have HR := Aside0.mk (show nameS a0 = false by
   have hl : lowB (bt a0 0) = false := (by unfold lowB; rw [decide_eq_false (show ¬ 97 ≤ bt a0 0 by omega)]; rfl)
   unfold nameS
   rw [hl, Bool.and_false, Bool.false_and])
  clear k1 k2 k3
  go_enter Tryd.func29, Tryd.ntmps29
  go_wp2_with ((with_reducible refine gate_dst (N := 1) rfl ?_); refine box_event ?hg (N := 1) ?hd (cs := #[.string a0]) (t := 9) ?hr ?_; (case hd => rfl); (case hg => rfl); (case hr => first | (go_simp; done) | (go_simp; rfl)); intro gs hgz w1 hbox hb; have HS1 := Aside0.mk hbox; have HB1 := Aside0.mk hb; have c0 := (blk_cell hbox 0).trans rfl; clear hb hbox hgz)
  go_ret
  exact ⟨by rw [HR.out]; rfl, HB1.out⟩
 by_cases k4 : 122 < bt a0 0
 ·have d1 : decide (bt a0 0 < 97) = false := decide_eq_false (by omega)
  have d1P : (bt a0 0 < 97) = False := eq_false (by omega)
  have d2 : decide (122 < bt a0 0) = true := decide_eq_true (by omega)
  have d2P : (122 < bt a0 0) = True := eq_true (by omega)
  have HR := Aside0.mk (show nameS a0 = false by
   have hl : lowB (bt a0 0) = false := (by unfold lowB; rw [decide_eq_false (show ¬ bt a0 0 ≤ 122 by omega), Bool.and_false])
   unfold nameS
   rw [hl, Bool.and_false, Bool.false_and])
  clear k1 k2 k3 k4
  go_enter Tryd.func29, Tryd.ntmps29
  go_wp2_with ((with_reducible refine gate_dst (N := 1) rfl ?_); refine box_event ?hg (N := 1) ?hd (cs := #[.string a0]) (t := 9) ?hr ?_; (case hd => rfl); (case hg => rfl); (case hr => first | (go_simp; done) | (go_simp; rfl)); intro gs hgz w1 hbox hb; have HS1 := Aside0.mk hbox; have HB1 := Aside0.mk hb; have c0 := (blk_cell hbox 0).trans rfl; clear hb hbox hgz)
  go_ret
  exact ⟨by rw [HR.out]; rfl, HB1.out⟩
 have d1 : decide (bt a0 0 < 97) = false := decide_eq_false (by omega)
 have d1P : (bt a0 0 < 97) = False := eq_false (by omega)
 have d2 : decide (122 < bt a0 0) = false := decide_eq_false (by omega)
 have d2P : (122 < bt a0 0) = False := eq_false (by omega)
 have HR := Aside0.mk (show nameS a0 = allNm a0 by
  have hl : lowB (bt a0 0) = true := (by unfold lowB; rw [decide_eq_true (show 97 ≤ bt a0 0 by omega), decide_eq_true (show bt a0 0 ≤ 122 by omega)]; rfl)
  unfold nameS
  rw [hl, decide_eq_true (show 1 ≤ a0.size by omega), decide_eq_true (show a0.size ≤ 24 by omega), Bool.true_and, Bool.true_and, Bool.true_and])
 have hmf_ : ∀ (fn : Fn) (first cap : Array Value) (w : World), (Instr.makeFunc fn first cap).run Tryd.prog w = .ok (.func fn first cap) w := fun _ _ _ _ => rfl
 clear k1 k2 k3 k4
 go_enter Tryd.func29, Tryd.ntmps29
 go_wp2_with ((with_reducible refine gate_dst (N := 1) rfl ?_); refine box_event ?hg (N := 1) ?hd (cs := #[.string a0]) (t := 9) ?hr ?_; (case hd => rfl); (case hg => rfl); (case hr => first | (go_simp; done) | (go_simp; rfl)); intro gs hgz w1 hbox hb; have HS1 := Aside0.mk hbox; have HB1 := Aside0.mk hb; have c0 := (blk_cell hbox 0).trans rfl; clear hb hbox hgz)
 have HS2 := Aside0.mk (blk_drew HS1.out)
 have HB2 := Aside0.mk (below_drew1 HB1.out)
 refine start_ (n := 7) (S := fun w' => w'.cell? ⟨gs, 0, none⟩ = some (.string a0)) (ds := []) #[Yn, Yn, Yn, Yn, Yn, Yn, Yn] (by kernel_rfl) rfl rfl (c0) (fun hHeld => ?_)
 generalize w1.drew = w2 at HS2 HB2 hHeld ⊢
 refine pure_ (i := 1) (N := some 22) (v := ?_) (a' := ?_) (Bz 7 0x2) rfl rfl (by kernel_rfl) (fun _ _ _ h => h) (Or.inl ⟨by rfl, ?_⟩) ?_ ?_
 rotate_left
 ·intro w'; go_simp; with_reducible rfl
 rotate_left; ·simp only [Act.put, Z1, Z2, Z3, i64_w, i32_w]; rfl
 refine take_ (i := 0) (N := some 21) (v := ?_) (a' := ?_) (Bz 7 0x3) rfl rfl (by kernel_rfl) (fun _ _ _ h => h) (Or.inl ⟨by rfl, ?_⟩) hHeld ?_ ?_
 rotate_left
 ·intro w' s0; go_simp; with_reducible rfl
 rotate_left; ·simp only [Act.put, Z1, Z2, Z3, i64_w, i32_w]; rfl
 refine take_ (i := 3) (N := some 24) (v := ?_) (a' := ?_) (Bz 7 0xb) rfl rfl (by kernel_rfl) (fun _ _ _ h => h) (Or.inl ⟨by rfl, ?_⟩) hHeld ?_ ?_
 rotate_left
 ·intro w' s0; go_simp; with_reducible rfl
 rotate_left; ·simp only [Act.put, Z1, Z2, Z3, i64_w, i32_w]; rfl
 refine pure_ (i := 4) (N := some 25) (v := ?_) (a' := ?_) (Bz 7 0x1b) rfl rfl (by kernel_rfl) (fun _ _ _ h => h) (Or.inl ⟨by rfl, ?_⟩) ?_ ?_
 rotate_left
 ·intro w'; go_simp; with_reducible rfl
 rotate_left; ·simp only [Act.put, Z1, Z2, Z3, i64_w, i32_w]; rfl
 refine one_ (i := 2) (N := some 23) #[Y, Y, Y, Y, Y, Yn, Yn] rfl rfl (by kernel_rfl) (by decide) (fun K hK => ?_)
 refine goes_ Tryd.func52 (by kernel_rfl) rfl #[.string a0, .int .i64 0, .func (.func 53) #[] #[.pointer (some ⟨gs, 0, none⟩)]] (by rfl) rfl rfl (by simp only [List.map_toArray, List.map_cons, List.map_nil]; rfl) ?_
 with_reducible refine (run_calls a0 gs _ (Glob.below HG.out HB2.out) HS2.out HZ.out).mono ?_
 rintro e w3 ⟨e0, rfl, hb, q1, q2, q3⟩
 refine ⟨_, rfl, ?_⟩
 have HB3 := Aside0.mk (below_step HB2.out hb)
 have HS3 := Aside0.mk (blk_below HS2.out hb)
 have HEQ := Aside0.mk (all_run q1 q2 q3)
 clear hb q1 q2 q3
 refine hK.out _ _ ((blk_cell HS3.out 0).trans rfl) (fun hHeld => ?_)
 clear hK K
 refine norm_ (a' := ?_) ?_ ?_
 rotate_left
 ·show Act.put _ (some 23) _ = _
  simp only [Act.put, Z1, Z2, Z3, i64_w, i32_w]
  rfl
 refine pure_ (i := 5) (N := some 26) (v := ?_) (a' := ?_) (Bz 7 0x3f) rfl rfl (by kernel_rfl) (fun _ _ _ h => h) (Or.inl ⟨by rfl, ?_⟩) ?_ ?_
 rotate_left
 ·intro w'; go_simp; with_reducible rfl
 rotate_left; ·simp only [Act.put, Z1, Z2, Z3, i64_w, i32_w]; rfl
 refine pure_ (i := 6) (N := some 2) (v := ?_) (a' := ?_) (Bz 7 0x7f) rfl rfl (by kernel_rfl) (fun _ _ _ h => h) (Or.inl ⟨by rfl, ?_⟩) ?_ ?_
 rotate_left
 ·intro w'; go_simp; with_reducible rfl
 rotate_left; ·simp only [Act.put, Z1, Z2, Z3, i64_w, i32_w]; rfl
 refine done_ (by kernel_rfl) ?_
 go_wp2
 go_ret
 exact ⟨by rw [HR.out, ← HEQ.out]; rfl, HB3.out⟩
end Go.Proofs.YtbccjcdmpiolpaaDoor.T
end
section
namespace Go.Proofs.YtbccjcdmpiolpaaDoor.T
open Go.RowKit Go.Proofs.YtbccjcdmpiolpaaDoorW.PrintWords Go.Proofs.YtbccjcdmpiolpaaDoorW.PrintLast Go.Proofs.YtbccjcdmpiolpaaDoorW.PrintMore
set_option linter.unusedVariables false
set_option linter.unusedSimpArgs false
theorem low_eq (b : Int) : plenumref07_Lower.f b = some (lowB b) := by
 unfold plenumref07_Lower.f lowB
 by_cases h : b ≥ 97
 ·rw [if_pos h, decide_eq_true (show 97 ≤ b from h), Bool.true_and]
 ·rw [if_neg h, decide_eq_false (show ¬ 97 ≤ b from h), Bool.false_and]
theorem dig_eq (b : Int) : plenumref07_Digit.f b = some (digB' b) := by
 unfold plenumref07_Digit.f digB'
 by_cases h : b ≥ 48
 ·rw [if_pos h, decide_eq_true (show 48 ≤ b from h), Bool.true_and]
 ·rw [if_neg h, decide_eq_false (show ¬ 48 ≤ b from h), Bool.false_and]
theorem name_loop (s : ByteArray) (hz : s.size ≤ 1000) : ∀ (d i k : Nat), i + d = s.size → plenumref07_Name.l0 (k + d + 1) s (i : Int) = some ((List.range d).all fun j => nmB (bt s ((i + j : Nat) : Int)))
 | 0, i, k, h => by
  rw [show k + 0 + 1 = k + 1 by omega, plenumref07_Name.l0, if_neg (by omega)]
  rfl
 | d + 1, i, k, h => by
  have hw : wrap64 ((i : Int) + 1) = ((i + 1 : Nat) : Int) := by unfold wrap64; omega
  have ih := name_loop s hz d (i + 1) k (by omega)
  have hall : ((List.range (d + 1)).all fun j => nmB (bt s ((i + j : Nat) : Int))) = (nmB (bt s (i : Int)) && (List.range d).all fun j => nmB (bt s ((i + 1 + j : Nat) : Int))) := by
   rw [List.range_succ_eq_map, List.all_cons, List.all_map]
   congr 1
   congr 1
   funext j
   show nmB (bt s ((i + (j + 1) : Nat) : Int)) = _
   rw [show i + (j + 1) = i + 1 + j by omega]
  rw [show k + (d + 1) + 1 = (k + d + 1) + 1 by omega, plenumref07_Name.l0, if_pos (by omega), if_pos (by omega), low_eq, Option.bind_some, dig_eq, Option.bind_some, hw, ih, hall]
  unfold nmB
  cases lowB (bt s (i : Int)) with
  | true => rfl
  | false =>
   rw [if_neg Bool.false_ne_true, Bool.false_or]
   cases digB' (bt s (i : Int)) with
   | true => rfl
   | false =>
    rw [if_neg Bool.false_ne_true, Bool.false_or]
    by_cases h9 : bt s (i : Int) = 95
    ·rw [if_pos h9, h9]
     rfl
    ·rw [if_neg h9, beq_false_of_ne h9]
     rfl
theorem nmB_low {b : Int} (h : lowB b = true) : nmB b = true := by
 unfold nmB
 rw [h]
 rfl
theorem refName (s : ByteArray) : plenumref07_Name.f 100 s = some (nameS s) := by
 unfold plenumref07_Name.f nameS
 by_cases h1 : (s.size : Int) < 1
 ·rw [if_pos h1, show (100 : Nat) = 99 + 1 from rfl, plenumref07_Name.j0, if_pos rfl, decide_eq_false (show ¬ 1 ≤ s.size by omega)]
  rfl
 rw [if_neg h1, decide_eq_true (show 1 ≤ s.size by omega), Bool.true_and]
 by_cases h2 : (s.size : Int) > 24
 ·rw [if_pos h2, show (100 : Nat) = 99 + 1 from rfl, plenumref07_Name.j0, if_pos rfl, decide_eq_false (show ¬ s.size ≤ 24 by omega)]
  rfl
 rw [if_neg h2, decide_eq_true (show s.size ≤ 24 by omega), Bool.true_and, if_pos (by omega), low_eq, Option.bind_some, show (100 : Nat) = 99 + 1 from rfl, plenumref07_Name.j0]
 cases hl : lowB (bt s 0) with
 | false => rfl
 | true =>
  rw [if_neg (by decide)]
  have := name_loop s (by omega) (s.size - 1) 1 (98 - (s.size - 1)) (by omega)
  rw [show 98 - (s.size - 1) + (s.size - 1) + 1 = 99 by omega] at this
  rw [show (1 : Int) = ((1 : Nat) : Int) from rfl, this, Bool.true_and]
  congr 1
  unfold allNm
  obtain ⟨d, hd⟩ : ∃ d, s.size = d + 1 := ⟨s.size - 1, by omega⟩
  rw [hd, List.range_succ_eq_map, List.all_cons, List.all_map]
  rw [show nmB (bt s ((0 : Nat) : Int)) = true from nmB_low hl, Bool.true_and, Nat.add_sub_cancel]
  congr 1
  funext j
  show nmB (bt s ((1 + j : Nat) : Int)) = nmB (bt s ((j + 1 : Nat) : Int))
  rw [Nat.add_comm]
structure ChkOk (way iv sz : Int) : Prop where
 s0 : 1 ≤ sz
 s1 : sz ≤ 1024
 w0 : 1 ≤ way
 w1 : way ≤ 3
 iv : way = 1 → 1 ≤ iv ∧ iv ≤ 86400
theorem no60 {P : Prop} (n : Int) (h : n = 0) (hn : n ≠ 0 := by decide) : P := absurd h hn
theorem chk_j1 (k : Nat) (b : Bool) (x0 x1 : ByteArray) (way iv st sz : Int) (p0 : ByteArray) (p1 p2 : Int) (p3 : ByteArray) (p4 p5 p6 : Int) (p7 : List ByteArray) (p8 p9 p10 p11 : Int) : ∃ r, plenumref41_Check.j1 (k + 1) b x0 x1 way iv st sz p0 p1 p2 p3 p4 p5 p6 p7 p8 p9 p10 p11 = some r ∧ (r = 0 → b = true) := by
 rw [plenumref41_Check.j1]
 cases b <;> repeat' split
 all_goals first
  | exact ⟨_, rfl, fun _ => rfl⟩
  | exact ⟨_, rfl, fun h => no60 _ h⟩
  | contradiction
theorem chk_j0 (k : Nat) (b : Bool) (x0 x1 : ByteArray) (way iv st sz : Int) (p0 : ByteArray) (p1 p2 : Int) (p3 : ByteArray) (p4 p5 p6 : Int) (p7 : List ByteArray) (p8 p9 p10 p11 : Int) : ∃ r, plenumref41_Check.j0 (k + 2) b x0 x1 way iv st sz p0 p1 p2 p3 p4 p5 p6 p7 p8 p9 p10 p11 = some r ∧ (r = 0 → b = true ∧ 1 ≤ way ∧ way ≤ 3 ∧ (way = 1 → 1 ≤ iv ∧ iv ≤ 86400)) := by
 rw [show k + 2 = (k + 1) + 1 from rfl, plenumref41_Check.j0]
 cases b <;> repeat' split
 all_goals first
  | exact ⟨_, rfl, fun h => no60 _ h⟩
  | contradiction
  | exact ⟨_, rfl, fun _ => ⟨rfl, by omega, by omega, fun _ => by omega⟩⟩
  | exact ⟨_, rfl, fun _ => ⟨rfl, by omega, by omega, fun hw => (by omega)⟩⟩
  | (obtain ⟨r, hr, hb⟩ := chk_j1 k false x0 x1 way iv st sz p0 p1 p2 p3 p4 p5 p6 p7 p8 p9 p10 p11; exact ⟨r, hr, fun h => absurd (hb h) (by decide)⟩)
  | (obtain ⟨r, hr, hb⟩ := chk_j1 k (iv == 0) x0 x1 way iv st sz p0 p1 p2 p3 p4 p5 p6 p7 p8 p9 p10 p11; exact ⟨r, hr, fun h => ⟨rfl, by omega, by omega, fun hw => by omega⟩⟩)
theorem chk_all (x0 x1 : ByteArray) (way iv st sz : Int) (p0 : ByteArray) (p1 p2 : Int) (p3 : ByteArray) (p4 p5 p6 : Int) (p7 : List ByteArray) (p8 p9 p10 p11 : Int) : ∃ r, plenumref41_Check.f 100 x0 x1 way iv st sz p0 p1 p2 p3 p4 p5 p6 p7 p8 p9 p10 p11 = some r ∧ (r = 0 → ChkOk way iv sz) := by
 unfold plenumref41_Check.f
 rw [refName, Option.bind_some]
 split
 ·split
  ·split
   ·obtain ⟨r, hr, hb⟩ := chk_j0 98 (decide (sz ≤ 1024)) x0 x1 way iv st sz p0 p1 p2 p3 p4 p5 p6 p7 p8 p9 p10 p11
    refine ⟨r, hr, fun h => ?_⟩
    obtain ⟨h1, h2, h3, h4⟩ := hb h
    exact ⟨by omega, of_decide_eq_true h1, h2, h3, h4⟩
   ·obtain ⟨r, hr, hb⟩ := chk_j0 98 false x0 x1 way iv st sz p0 p1 p2 p3 p4 p5 p6 p7 p8 p9 p10 p11
    exact ⟨r, hr, fun h => absurd (hb h).1 (by decide)⟩
  ·exact ⟨_, rfl, fun h => no60 _ h⟩
 ·exact ⟨_, rfl, fun h => no60 _ h⟩
structure MvOk (at_ way iv : Int) (x : S34) : Prop where
 k0 : 0 ≤ x.f0
 k1 : x.f0 ≤ 3
 a0 : 0 ≤ x.f1.f2
 a1 : x.f1.f2 ≤ 1010000
 w : way = 1 → x.f1.f2 ≤ wrap64 (at_ + wrap64 (400 * iv))
 v0 : 0 ≤ x.f1.f0.f0
 v1 : x.f1.f0.f0 ≤ 3
 n0 : -1000000000000 ≤ x.f1.f0.f1
 n1 : x.f1.f0.f1 ≤ 1000000000000
 q0 : 0 ≤ x.f1.f1
 q1 : x.f1.f1 ≤ 15
theorem rd34_get (l : List S34) (i : Nat) (h : i < l.length) : rd_T34 l (i : Int) = l[i] := by
 unfold rd_T34
 rw [Int.toNat_natCast, List.getD_eq_getElem?_getD, List.getElem?_eq_getElem h]
 rfl
theorem fit_l0 (a : Int) (l : List S34) (x0 x1 : ByteArray) (way iv st sz : Int) (hl : l.length ≤ 1000) : ∀ (d i k : Nat), i + d = l.length → ∃ r, plenumref41_Fit.l0 (k + 2 * d + 1) a l (i : Int) x0 x1 way iv st sz = some r ∧ (r = true → ∀ j, i ≤ j → ∀ h : j < l.length, MvOk a way iv l[j])
 | 0, i, k, h => by
  rw [show k + 2 * 0 + 1 = k + 1 by omega, plenumref41_Fit.l0, if_neg (by omega)]
  exact ⟨_, rfl, fun _ j h1 h2 => absurd h2 (by omega)⟩
 | d + 1, i, k, h => by
  obtain ⟨r, hr, hb⟩ := fit_l0 a l x0 x1 way iv st sz hl d (i + 1) k (by omega)
  have hi : i < l.length := by omega
  have hw : wrap64 ((i : Int) + 1) = ((i + 1 : Nat) : Int) := by unfold wrap64; omega
  have hj : ∀ b : Bool, ∃ r, plenumref41_Fit.j2 (k + 2 * d + 2) a l (i : Int) b x0 x1 way iv st sz (l[i].f1.f0.f0) (l[i].f1.f0.f1) (l[i].f1.f1) (l[i].f1.f2) = some r ∧ (r = true → b = false ∧ (0 ≤ l[i].f1.f0.f0 ∧ l[i].f1.f0.f0 ≤ 3 ∧ -1000000000000 ≤ l[i].f1.f0.f1 ∧ l[i].f1.f0.f1 ≤ 1000000000000 ∧ 0 ≤ l[i].f1.f1 ∧ l[i].f1.f1 ≤ 15) ∧ ∀ j, i + 1 ≤ j → ∀ h : j < l.length, MvOk a way iv l[j]) := by
   intro b
   rw [show k + 2 * d + 2 = (k + 2 * d + 1) + 1 from rfl, plenumref41_Fit.j2, hw, hr]
   cases b <;> repeat' split
   all_goals first
    | exact ⟨_, rfl, fun h => absurd h (by decide)⟩
    | contradiction
    | exact ⟨r, rfl, fun h => ⟨rfl, ⟨by omega, by omega, by omega, by omega, by omega, by omega⟩, hb h⟩⟩
  rw [show k + 2 * (d + 1) + 1 = (k + 2 * d + 2) + 1 by omega, plenumref41_Fit.l0, if_pos (by omega), if_pos (by omega), rd34_get l i hi]
  obtain ⟨rt, ht, hbt⟩ := hj true
  obtain ⟨rf, hf, hbf⟩ := hj false
  have all : ∀ r : Bool, (r = true → (0 ≤ l[i].f0 ∧ l[i].f0 ≤ 3 ∧ 0 ≤ l[i].f1.f2 ∧ l[i].f1.f2 ≤ 1010000 ∧ (way = 1 → l[i].f1.f2 ≤ wrap64 (a + wrap64 (400 * iv)))) ∧ (0 ≤ l[i].f1.f0.f0 ∧ l[i].f1.f0.f0 ≤ 3 ∧ -1000000000000 ≤ l[i].f1.f0.f1 ∧ l[i].f1.f0.f1 ≤ 1000000000000 ∧ 0 ≤ l[i].f1.f1 ∧ l[i].f1.f1 ≤ 15) ∧ ∀ j, i + 1 ≤ j → ∀ h : j < l.length, MvOk a way iv l[j]) → (r = true → ∀ j, i ≤ j → ∀ h : j < l.length, MvOk a way iv l[j]) := by
   intro r hh e j h1 h2
   obtain ⟨⟨p0, p1, p2, p3, p4⟩, ⟨p5, p6, p7, p8, p9, p10⟩, p11⟩ := hh e
   rcases Nat.lt_or_ge i j with h3 | h3
   ·exact p11 j h3 h2
   ·have : j = i := by omega
    subst this
    exact ⟨p0, p1, p2, p3, p4, p5, p6, p7, p8, p9, p10⟩
  by_cases c1 : l[i].f0 < 0
  ·rw [if_pos c1]; exact ⟨rt, ht, fun e => absurd (hbt e).1 (by decide)⟩
  rw [if_neg c1]
  by_cases c2 : l[i].f0 > 3
  ·rw [if_pos c2]; exact ⟨rt, ht, fun e => absurd (hbt e).1 (by decide)⟩
  rw [if_neg c2]
  by_cases c3 : l[i].f1.f2 < 0
  ·rw [if_pos c3]; exact ⟨rt, ht, fun e => absurd (hbt e).1 (by decide)⟩
  rw [if_neg c3]
  by_cases c4 : l[i].f1.f2 > 1010000
  ·rw [if_pos c4]; exact ⟨rt, ht, fun e => absurd (hbt e).1 (by decide)⟩
  rw [if_neg c4]
  by_cases c5 : way = 1
  ·rw [if_pos c5]
   obtain ⟨r2, h2, hb2⟩ := hj (decide (l[i].f1.f2 > wrap64 (a + wrap64 (400 * iv))))
   refine ⟨r2, h2, all r2 fun e => ?_⟩
   obtain ⟨q1, q2, q3⟩ := hb2 e
   have q1 := of_decide_eq_false q1
   exact ⟨⟨by omega, by omega, by omega, by omega, fun _ => by omega⟩, q2, q3⟩
  ·rw [if_neg c5]
   refine ⟨rf, hf, all rf fun e => ?_⟩
   obtain ⟨q1, q2, q3⟩ := hbf e
   exact ⟨⟨by omega, by omega, by omega, by omega, fun h => absurd h c5⟩, q2, q3⟩
structure FitOk (x0 x1 : ByteArray) (way iv sz a : Int) (l : List S34) (most : Int) : Prop where
 chk : ChkOk way iv sz
 n0 : x0.size ≤ 100
 n1 : x1.size ≤ 100
 len : (l.length : Int) ≤ most
 a0 : 0 ≤ a
 a1 : a ≤ 1000000
 mv : ∀ j, ∀ h : j < l.length, MvOk a way iv l[j]
theorem fit_all (x0 x1 : ByteArray) (way iv st sz kind a : Int) (l : List S34) (most : Int) (hm : most ≤ 30) : ∃ r, plenumref41_Fit.f 100 x0 x1 way iv st sz kind a l most = some r ∧ (r = true → FitOk x0 x1 way iv sz a l most) := by
 obtain ⟨c, hc, hb⟩ := chk_all x0 x1 way iv st sz x1 kind 0 (⟨#[]⟩ : ByteArray) 0 0 0 ([] : List ByteArray) 0 0 0 0
 unfold plenumref41_Fit.f
 rw [hc, Option.bind_some]
 have hj : plenumref41_Fit.j0 100 a l true x0 x1 way iv st sz = some false := by
  rw [show (100 : Nat) = 99 + 1 from rfl, plenumref41_Fit.j0, if_pos rfl]
 rw [hj]
 have hno : ∃ r, some false = some r ∧ (r = true → FitOk x0 x1 way iv sz a l most) := ⟨false, rfl, fun e => absurd e (by decide)⟩
 by_cases c0 : c = 0
 ·rw [if_pos c0]
  by_cases c1 : (x0.size : Int) > 100
  ·rw [if_pos c1]; exact hno
  rw [if_neg c1]
  by_cases c2 : (x1.size : Int) > 100
  ·rw [if_pos c2]; exact hno
  rw [if_neg c2]
  by_cases c3 : (l.length : Int) > most
  ·rw [if_pos c3]; exact hno
  rw [if_neg c3]
  by_cases c4 : a < 0
  ·rw [if_pos c4]; exact hno
  rw [if_neg c4]
  by_cases c5 : a > 1000000
  ·rw [decide_eq_true c5, hj]; exact hno
  rw [decide_eq_false c5, show (100 : Nat) = 99 + 1 from rfl, plenumref41_Fit.j0, if_neg Bool.false_ne_true]
  obtain ⟨r, hr, hm2⟩ := fit_l0 a l x0 x1 way iv st sz (by omega) l.length 0 (98 - 2 * l.length) (by omega)
  rw [show 98 - 2 * l.length + 2 * l.length + 1 = 99 by omega] at hr
  exact ⟨r, hr, fun e => ⟨hb c0, by omega, by omega, by omega, by omega, by omega, fun j h => hm2 e j (Nat.zero_le _) h⟩⟩
 ·rw [if_neg c0]
  exact hno
end Go.Proofs.YtbccjcdmpiolpaaDoor.T
end
section
namespace Go.Proofs.YtbccjcdmpiolpaaDoor.T
open Go.RowKit Go.Proofs.YtbccjcdmpiolpaaDoorW.PrintWords Go.Proofs.YtbccjcdmpiolpaaDoorW.PrintLast Go.Proofs.YtbccjcdmpiolpaaDoorW.PrintMore
set_option linter.unusedVariables false
set_option linter.unusedSimpArgs false
attribute [local go_sem] max2_int min2_int max_two min_two
def Lg.after (L : Lg) (number most : Int) : List S44 × Int :=
 if number < 0 ∨ number > L.total ∨ most < 1 then ([], 1)
 else if number + 1 < L.total - (L.recs.length : Int) + 1 then ([⟨L.total - (L.recs.length : Int), 0, ⟨0, 0⟩, 0, L.total - (L.recs.length : Int) - number⟩] ++ L.recs.take (most - 1).toNat, 0)
 else ((L.recs.drop (number - (L.total - (L.recs.length : Int))).toNat).take most.toNat, 0)
def AfterPost (w : World) (x : List S44 × Int) (e : Ending) (w' : World) : Prop := ∃ v : Value, e = .returned (.tuple #[v, .int .i64 x.2]) ∧ Kd.R k44 44 w' w.heap.size (fun _ => True) v x.1 ∧ Below w.heap.size w w'
theorem Gbelow {w w1 : World} (h : w.grownBy w1 (Value.slice none 0 0).ownBlock) : Below w.heap.size w w1 := ⟨h.os, h.tape, h.output, h.size, fun k hk => h.block k hk (by simp [Value.ownBlock])⟩
set_option maxHeartbeats 16000000 in
set_option maxRecDepth 100000 in
theorem after_calls (B g : Nat) (L : Lg) (number most : Int) (w : World) (h : LogAt B g L w) (hn : L.recs.length ≤ 1000000) (ht : 0 ≤ L.total ∧ L.total ≤ 1000000000000000) (hm : most ≤ 9223372036854775807) :
  Calls Tryd.prog 13 #[.pointer (some ⟨g, 0, none⟩), .int .i64 number, .int .i64 most] w fun e w' => AfterPost w (L.after number most) e w' := by
 have HI := Aside0.mk h
 have HLN := Aside0.mk hn
 have HTB := Aside0.mk ht
 have HMB := Aside0.mk hm
 obtain ⟨total, HTT⟩ : ∃ t, Aside0 (L.total = t) := ⟨_, ⟨rfl⟩⟩
 obtain ⟨v0, ring, f, hG, hge, _⟩ := h
 rw [HTT.out] at hG
 have c12 := (blk_cell hG 12).trans rfl
 have HG := Aside0.mk hG
 clear hG hge hn ht hm
 by_cases k1 : number < 0
 ·have hb1 : decide (number < 0) = true := decide_eq_true k1
  have HT := Aside0.mk (show L.after number most = ([], 1) from if_pos (Or.inl k1))
  clear k1
  go_enter Tryd.func13, Tryd.ntmps13
  go_wp2
  go_ret2
  rw [HT.out]
  exact ⟨_, rfl, Kd.R_nil _ _ _ _ _, Below.refl _ _⟩
 ·have hb1 : decide (number < 0) = false := decide_eq_false k1
  by_cases k2 : number > total
  ·have hb2 : decide (total < number) = true := decide_eq_true k2
   have HT := Aside0.mk (show L.after number most = ([], 1) from if_pos (Or.inr (Or.inl (by rw [HTT.out]; exact k2))))
   clear k1 k2
   go_enter Tryd.func13, Tryd.ntmps13
   go_wp2
   go_ret2
   rw [HT.out]
   exact ⟨_, rfl, Kd.R_nil _ _ _ _ _, Below.refl _ _⟩
  ·have hb2 : decide (total < number) = false := decide_eq_false k2
   by_cases k3 : most < 1
   ·have hb3 : decide (most < 1) = true := decide_eq_true k3
    have HT := Aside0.mk (show L.after number most = ([], 1) from if_pos (Or.inr (Or.inr k3)))
    clear k1 k2 k3
    go_enter Tryd.func13, Tryd.ntmps13
    go_wp2
    go_ret2
    rw [HT.out]
    exact ⟨_, rfl, Kd.R_nil _ _ _ _ _, Below.refl _ _⟩
   ·have hb3 : decide (most < 1) = false := decide_eq_false k3
    have HNB := Aside0.mk (show 0 ≤ number ∧ number ≤ total by omega)
    have HM1 := Aside0.mk (show 1 ≤ most by omega)
    clear k1 k2 k3
    obtain ⟨xs, HXS⟩ : ∃ xs, Aside0 (L.recs = xs) := ⟨_, ⟨rfl⟩⟩
    have HXB := Aside0.mk (show xs.length ≤ 1000000 by rw [← HXS.out]; exact HLN.out)
    have HTB2 := Aside0.mk (show 0 ≤ total ∧ total ≤ 1000000000000000 by rw [← HTT.out]; exact HTB.out)
    obtain ⟨od, HOD⟩ : ∃ od, Aside0 (total - (xs.length : Int) + 1 = od) := ⟨_, ⟨rfl⟩⟩
    have hw1 : wrap64 (total - (xs.length : Int)) = total - (xs.length : Int) := wrap_id (by have := HXB.out; have := HTB2.out; omega) (by have := HXB.out; have := HTB2.out; omega)
    have hw2 : wrap64 (total - (xs.length : Int) + 1) = od := by rw [wrap_id (by have := HXB.out; have := HTB2.out; omega) (by have := HXB.out; have := HTB2.out; omega), HOD.out]
    have hw3 : wrap64 (number + 1) = number + 1 := wrap_id (by have := HNB.out; omega) (by have := HNB.out; have := HTB2.out; omega)
    by_cases k4 : number + 1 < od
    ·have hb4 : decide (number + 1 < od) = true := decide_eq_true k4
     have HK4 := Aside0.mk k4
     obtain ⟨gp, HGP⟩ : ∃ gp, Aside0 (od - 1 - number = gp) := ⟨_, ⟨rfl⟩⟩
     obtain ⟨o1, HO1⟩ : ∃ o1, Aside0 (od - 1 = o1) := ⟨_, ⟨rfl⟩⟩
     have hw4 : wrap64 (od - 1) = o1 := by rw [wrap_id (by have := HXB.out; have := HTB2.out; have := HOD.out; omega) (by have := HXB.out; have := HTB2.out; have := HOD.out; omega), HO1.out]
     have hw5 : wrap64 (o1 - number) = gp := by rw [wrap_id (by have := HXB.out; have := HTB2.out; have := HOD.out; have := HO1.out; have := HNB.out; omega) (by have := HXB.out; have := HTB2.out; have := HOD.out; have := HO1.out; have := HNB.out; omega), ← HGP.out, HO1.out]
     have hw6 : wrap64 (o1 - od) = -1 := by rw [wrap_id (by have := HO1.out; omega) (by have := HO1.out; omega)]; have := HO1.out; omega
     have hw7 : wrap64 (-1 + 1) = 0 := wrap_id (by omega) (by omega)
     have hw7b : wrap64 0 = 0 := wrap_id (by omega) (by omega)
     have hw8 : wrap64 (most - 1) = most - 1 := wrap_id (by have := HM1.out; omega) (by have := HMB.out; omega)
     obtain ⟨j, HJV⟩ : ∃ j : Nat, Aside0 (j = 0) := ⟨0, ⟨rfl⟩⟩
     have HJ := Aside0.mk (show j ≤ xs.length by rw [HJV.out]; exact Nat.zero_le _)
     have HJI := Aside0.mk (show (j : Int) = 0 by rw [HJV.out]; rfl)
     obtain ⟨ys, HYS⟩ : ∃ ys, Aside0 (xs.drop j = ys) := ⟨_, ⟨rfl⟩⟩
     have HYX := Aside0.mk (show ys = xs by rw [← HYS.out, HJV.out, List.drop_zero])
     have HGAP := Aside0.mk (show L.after number most = ([⟨o1, 0, ⟨0, 0⟩, 0, gp⟩] ++ xs.take (most - 1).toNat, 0) by
      unfold Lg.after
      rw [if_neg (by rw [HTT.out]; have := HNB.out; have := HM1.out; omega), HXS.out, HTT.out, if_pos (by have := HOD.out; have := HK4.out; omega), ← HO1.out, ← HGP.out, ← HOD.out]
      rw [show total - (xs.length : Int) + 1 - 1 = total - (xs.length : Int) by omega])
     clear k4
     by_cases k5 : (ys.length : Int) ≤ most - 1
     ·have hmn : (most - 1 < (ys.length : Int)) = False := eq_false (by omega)
      have hmn2 : ((ys.length : Int) ≤ most - 1) = True := eq_true k5
      obtain ⟨m, HMV⟩ : ∃ m : Nat, Aside0 (m = ys.length) := ⟨_, ⟨rfl⟩⟩
      have HM := Aside0.mk (show m ≤ ys.length by rw [HMV.out]; exact Nat.le_refl _)
      have HMI := Aside0.mk (show (m : Int) = (ys.length : Int) by rw [HMV.out])
      obtain ⟨zs, HZS⟩ : ∃ zs, Aside0 (ys.take m = zs) := ⟨_, ⟨rfl⟩⟩
      have HZB := Aside0.mk (show zs.length ≤ 1000000 by rw [← HZS.out, List.length_take]; have := HXB.out; have h2 := HYX.out; have h3 := HMV.out; rw [h2] at h3 ⊢; omega)
      have HRES := Aside0.mk (show xs.take (most - 1).toNat = zs by rw [← HZS.out, HMV.out, List.take_of_length_le (Nat.le_refl _), HYX.out]; exact List.take_of_length_le (by rw [HYX.out] at k5; omega))
      clear k5
      go_enter Tryd.func13, Tryd.ntmps13
      go_wp2_with (first | (go_at_call 14; (with_reducible refine (records_calls B g L _ HI.out HLN.out).mono ?_); rintro e w1 ⟨v1, rfl, ho, hb⟩; obtain ⟨A1, c1, e1, hc1, hC1⟩ := Kd.R_reads ho; subst e1; have HB1 := Aside0.mk hb; have HC1 := Aside0.mk hC1; have HCC1 := Aside0.mk hc1; rw [HXS.out] at HC1 HCC1 ⊢; have c12 := (blk_cell (blk_below HG.out hb) 12).trans rfl; obtain ⟨A2, c2, hcc2, hcut2, hD2⟩ := cutD HC1.out HCC1.out j HJ.out; have HD2 := Aside0.mk hD2; rw [HYS.out] at hcc2 hcut2 HD2; have HC2 := Aside0.mk (show Kd.C k44 w1 A2 ys.length ys from HD2.out w1 HC1.out); have HCC2 := Aside0.mk hcc2; rw [HJI.out] at hcut2; obtain ⟨_, hcut3, hT3⟩ := cutT (A := A2) hcc2 m HM.out; have HT3 := Aside0.mk hT3; rw [HZS.out] at hcut3 HT3; rw [HMI.out] at hcut3; clear hD2 hcc2 hT3;  clear ho hb hC1 hc1) | (at_builtin; refine Kd.R_append k44 (w0 := w) w.heap.size rfl (.tmp 39) (.tmp 47) 39 44 (.agg #[(.int .i64 0), (.int .i64 0), (.int .i64 0), (.int .i64 0), (.int .i64 0), (.int .i64 0)]) 48 rfl Tryd.underlying39 info44 rfl (by decide) (by omega) (.slice none 0 0) [] (⟨o1, 0, ⟨0, 0⟩, 0, gp⟩ : S44) [.int .i64 o1, .int .i64 0, .int .i64 0, .int .i64 0, .int .i64 0, .int .i64 gp] (fun _ => True) (fun _ => False) rfl rfl (k44_mkM _ _ _ (⟨o1, 0, ⟨0, 0⟩, 0, gp⟩ : S44)) (fun _ hk => hk.elim) (fun _ _ => trivial) (Kd.R_nil _ _ _ _ _) HB1.out HB1.out.size (by simp) ?_; intro v3 w3 ho hb hg hat; rw [List.nil_append] at ho; obtain ⟨A3, c3, e3⟩ := Kd.R_slice ho; subst e3; have HO3 := Aside0.mk ho; have HB3 := Aside0.mk hb; have HC3 := Aside0.mk (show Kd.C k44 w3 A2 ys.length ys from Kd.C_below HC2.out (Gbelow hg)); clear ho hb hg hat) | (at_builtin; refine Kd.R_append_rows k44 (w0 := w) w.heap.size rfl (.tmp 57) (.tmp 66) 39 44 (.agg #[(.int .i64 0), (.int .i64 0), (.int .i64 0), (.int .i64 0), (.int .i64 0), (.int .i64 0)]) 48 rfl Tryd.underlying39 info44 rfl (by decide) (by omega) (.slice A3 1 c3) [(⟨o1, 0, ⟨0, 0⟩, 0, gp⟩ : S44)] zs _ _ _ (fun _ => True) (fun _ => False) rfl rfl HO3.out (HT3.out _ HC3.out) (fun x cs hK => by obtain rfl := k44_open hK; exact k44_mkM _ _ _ x) (fun _ h => h.elim) (fun _ _ => trivial) HB3.out HB3.out.size (by have := HZB.out; simp; omega) ?_; intro v9 w9 ho hb hg hat; have HR9 := Aside0.mk ho; have HB9 := Aside0.mk hb; clear ho hb hg hat))
      go_ret2
      rw [HGAP.out, HRES.out]
      exact ⟨_, rfl, HR9.out, HB9.out⟩
     ·have hmn : (most - 1 < (ys.length : Int)) = True := eq_true (by omega)
      have hmn2 : ((ys.length : Int) ≤ most - 1) = False := eq_false k5
      obtain ⟨m, HMV⟩ : ∃ m : Nat, Aside0 (m = (most - 1).toNat) := ⟨_, ⟨rfl⟩⟩
      have HM := Aside0.mk (show m ≤ ys.length by rw [HMV.out]; omega)
      have HMI := Aside0.mk (show (m : Int) = most - 1 by rw [HMV.out]; have := HM1.out; omega)
      obtain ⟨zs, HZS⟩ : ∃ zs, Aside0 (ys.take m = zs) := ⟨_, ⟨rfl⟩⟩
      have HZB := Aside0.mk (show zs.length ≤ 1000000 by rw [← HZS.out, List.length_take]; have := HXB.out; have h2 := HYX.out; rw [h2]; omega)
      have HRES := Aside0.mk (show xs.take (most - 1).toNat = zs by rw [← HZS.out, HMV.out, HYX.out])
      clear k5
      go_enter Tryd.func13, Tryd.ntmps13
      go_wp2_with (first | (go_at_call 14; (with_reducible refine (records_calls B g L _ HI.out HLN.out).mono ?_); rintro e w1 ⟨v1, rfl, ho, hb⟩; obtain ⟨A1, c1, e1, hc1, hC1⟩ := Kd.R_reads ho; subst e1; have HB1 := Aside0.mk hb; have HC1 := Aside0.mk hC1; have HCC1 := Aside0.mk hc1; rw [HXS.out] at HC1 HCC1 ⊢; have c12 := (blk_cell (blk_below HG.out hb) 12).trans rfl; obtain ⟨A2, c2, hcc2, hcut2, hD2⟩ := cutD HC1.out HCC1.out j HJ.out; have HD2 := Aside0.mk hD2; rw [HYS.out] at hcc2 hcut2 HD2; have HC2 := Aside0.mk (show Kd.C k44 w1 A2 ys.length ys from HD2.out w1 HC1.out); have HCC2 := Aside0.mk hcc2; rw [HJI.out] at hcut2; obtain ⟨_, hcut3, hT3⟩ := cutT (A := A2) hcc2 m HM.out; have HT3 := Aside0.mk hT3; rw [HZS.out] at hcut3 HT3; rw [HMI.out] at hcut3; clear hD2 hcc2 hT3;  clear ho hb hC1 hc1) | (at_builtin; refine Kd.R_append k44 (w0 := w) w.heap.size rfl (.tmp 39) (.tmp 47) 39 44 (.agg #[(.int .i64 0), (.int .i64 0), (.int .i64 0), (.int .i64 0), (.int .i64 0), (.int .i64 0)]) 48 rfl Tryd.underlying39 info44 rfl (by decide) (by omega) (.slice none 0 0) [] (⟨o1, 0, ⟨0, 0⟩, 0, gp⟩ : S44) [.int .i64 o1, .int .i64 0, .int .i64 0, .int .i64 0, .int .i64 0, .int .i64 gp] (fun _ => True) (fun _ => False) rfl rfl (k44_mkM _ _ _ (⟨o1, 0, ⟨0, 0⟩, 0, gp⟩ : S44)) (fun _ hk => hk.elim) (fun _ _ => trivial) (Kd.R_nil _ _ _ _ _) HB1.out HB1.out.size (by simp) ?_; intro v3 w3 ho hb hg hat; rw [List.nil_append] at ho; obtain ⟨A3, c3, e3⟩ := Kd.R_slice ho; subst e3; have HO3 := Aside0.mk ho; have HB3 := Aside0.mk hb; have HC3 := Aside0.mk (show Kd.C k44 w3 A2 ys.length ys from Kd.C_below HC2.out (Gbelow hg)); clear ho hb hg hat) | (at_builtin; refine Kd.R_append_rows k44 (w0 := w) w.heap.size rfl (.tmp 57) (.tmp 66) 39 44 (.agg #[(.int .i64 0), (.int .i64 0), (.int .i64 0), (.int .i64 0), (.int .i64 0), (.int .i64 0)]) 48 rfl Tryd.underlying39 info44 rfl (by decide) (by omega) (.slice A3 1 c3) [(⟨o1, 0, ⟨0, 0⟩, 0, gp⟩ : S44)] zs _ _ _ (fun _ => True) (fun _ => False) rfl rfl HO3.out (HT3.out _ HC3.out) (fun x cs hK => by obtain rfl := k44_open hK; exact k44_mkM _ _ _ x) (fun _ h => h.elim) (fun _ _ => trivial) HB3.out HB3.out.size (by have := HZB.out; simp; omega) ?_; intro v9 w9 ho hb hg hat; have HR9 := Aside0.mk ho; have HB9 := Aside0.mk hb; clear ho hb hg hat))
      go_ret2
      rw [HGAP.out, HRES.out]
      exact ⟨_, rfl, HR9.out, HB9.out⟩
    ·have hb4 : decide (number + 1 < od) = false := decide_eq_false k4
     have HK4 := Aside0.mk k4
     obtain ⟨j, HJV⟩ : ∃ j : Nat, Aside0 ((number - (total - (xs.length : Int))).toNat = j) := ⟨_, ⟨rfl⟩⟩
     have HJ := Aside0.mk (show j ≤ xs.length by have h1 := HJV.out; have h2 := HNB.out; omega)
     have HJI0 := Aside0.mk (show (j : Int) = number - (total - (xs.length : Int)) by have h1 := HJV.out; have h2 := HOD.out; omega)
     obtain ⟨ji, HJI⟩ : ∃ ji : Int, Aside0 ((j : Int) = ji) := ⟨_, ⟨rfl⟩⟩
     have hw6 : wrap64 (number - od) = ji - 1 := by rw [wrap_id (by have := HJI0.out; have := HOD.out; omega) (by have := HJI0.out; have := HOD.out; have := HJ.out; have := HXB.out; omega)]; have := HJI.out; have := HJI0.out; have := HOD.out; omega
     have hw7 : wrap64 (ji - 1 + 1) = ji := by rw [show ji - 1 + 1 = ji by omega]; exact wrap_id (by have := HJI.out; omega) (by have := HJI.out; have := HJ.out; have := HXB.out; omega)
     have hw7b : wrap64 ji = ji := wrap_id (by have := HJI.out; omega) (by have := HJI.out; have := HJ.out; have := HXB.out; omega)
     have hw8 : wrap64 most = most := wrap_id (by have := HM1.out; omega) (by have := HMB.out; omega)
     obtain ⟨ys, HYS⟩ : ∃ ys, Aside0 (xs.drop j = ys) := ⟨_, ⟨rfl⟩⟩
     have HYB := Aside0.mk (show ys.length ≤ 1000000 by rw [← HYS.out, List.length_drop]; have := HXB.out; omega)
     have HGAP := Aside0.mk (show L.after number most = (ys.take most.toNat, 0) by
      unfold Lg.after
      rw [if_neg (by rw [HTT.out]; have := HNB.out; have := HM1.out; omega), HXS.out, HTT.out, if_neg (by have := HOD.out; have := HK4.out; omega), HJV.out, HYS.out])
     clear k4
     by_cases k5 : (ys.length : Int) ≤ most
     ·have hmn : (most < (ys.length : Int)) = False := eq_false (by omega)
      have hmn2 : ((ys.length : Int) ≤ most) = True := eq_true k5
      obtain ⟨m, HMV⟩ : ∃ m : Nat, Aside0 (m = ys.length) := ⟨_, ⟨rfl⟩⟩
      have HM := Aside0.mk (show m ≤ ys.length by rw [HMV.out]; exact Nat.le_refl _)
      have HMI := Aside0.mk (show (m : Int) = (ys.length : Int) by rw [HMV.out])
      obtain ⟨zs, HZS⟩ : ∃ zs, Aside0 (ys.take m = zs) := ⟨_, ⟨rfl⟩⟩
      have HZB := Aside0.mk (show zs.length ≤ 1000000 by rw [← HZS.out, List.length_take]; have := HYB.out; omega)
      have HRES := Aside0.mk (show ys.take most.toNat = zs by rw [← HZS.out, HMV.out, List.take_of_length_le (Nat.le_refl _)]; exact List.take_of_length_le (by omega))
      clear k5
      go_enter Tryd.func13, Tryd.ntmps13
      go_wp2_with (first | (go_at_call 14; (with_reducible refine (records_calls B g L _ HI.out HLN.out).mono ?_); rintro e w1 ⟨v1, rfl, ho, hb⟩; obtain ⟨A1, c1, e1, hc1, hC1⟩ := Kd.R_reads ho; subst e1; have HB1 := Aside0.mk hb; have HC1 := Aside0.mk hC1; have HCC1 := Aside0.mk hc1; rw [HXS.out] at HC1 HCC1 ⊢; have c12 := (blk_cell (blk_below HG.out hb) 12).trans rfl; obtain ⟨A2, c2, hcc2, hcut2, hD2⟩ := cutD HC1.out HCC1.out j HJ.out; have HD2 := Aside0.mk hD2; rw [HYS.out] at hcc2 hcut2 HD2; have HC2 := Aside0.mk (show Kd.C k44 w1 A2 ys.length ys from HD2.out w1 HC1.out); have HCC2 := Aside0.mk hcc2; rw [HJI.out] at hcut2; obtain ⟨_, hcut3, hT3⟩ := cutT (A := A2) hcc2 m HM.out; have HT3 := Aside0.mk hT3; rw [HZS.out] at hcut3 HT3; rw [HMI.out] at hcut3; clear hD2 hcc2 hT3;  clear ho hb hC1 hc1) | (at_builtin; refine Kd.R_append_rows k44 (w0 := w) w.heap.size rfl (.tmp 57) (.tmp 66) 39 44 (.agg #[(.int .i64 0), (.int .i64 0), (.int .i64 0), (.int .i64 0), (.int .i64 0), (.int .i64 0)]) 48 rfl Tryd.underlying39 info44 rfl (by decide) (by omega) (.slice none 0 0) [] zs _ _ _ (fun _ => True) (fun _ => False) rfl rfl (Kd.R_nil _ _ _ _ _) (HT3.out _ HC2.out) (fun x cs hK => by obtain rfl := k44_open hK; exact k44_mkM _ _ _ x) (fun _ h => h.elim) (fun _ _ => trivial) HB1.out HB1.out.size (by have := HZB.out; simp; omega) ?_; intro v9 w9 ho hb hg hat; have HR9 := Aside0.mk ho; have HB9 := Aside0.mk hb; clear ho hb hg hat))
      go_ret2
      rw [HGAP.out, HRES.out]
      rw [List.nil_append] at HR9
      exact ⟨_, rfl, HR9.out, HB9.out⟩
     ·have hmn : (most < (ys.length : Int)) = True := eq_true (by omega)
      have hmn2 : ((ys.length : Int) ≤ most) = False := eq_false k5
      obtain ⟨m, HMV⟩ : ∃ m : Nat, Aside0 (m = most.toNat) := ⟨_, ⟨rfl⟩⟩
      have HM := Aside0.mk (show m ≤ ys.length by rw [HMV.out]; omega)
      have HMI := Aside0.mk (show (m : Int) = most by rw [HMV.out]; have := HM1.out; omega)
      obtain ⟨zs, HZS⟩ : ∃ zs, Aside0 (ys.take m = zs) := ⟨_, ⟨rfl⟩⟩
      have HZB := Aside0.mk (show zs.length ≤ 1000000 by rw [← HZS.out, List.length_take]; have := HYB.out; omega)
      have HRES := Aside0.mk (show ys.take most.toNat = zs by rw [← HZS.out, HMV.out])
      clear k5
      go_enter Tryd.func13, Tryd.ntmps13
      go_wp2_with (first | (go_at_call 14; (with_reducible refine (records_calls B g L _ HI.out HLN.out).mono ?_); rintro e w1 ⟨v1, rfl, ho, hb⟩; obtain ⟨A1, c1, e1, hc1, hC1⟩ := Kd.R_reads ho; subst e1; have HB1 := Aside0.mk hb; have HC1 := Aside0.mk hC1; have HCC1 := Aside0.mk hc1; rw [HXS.out] at HC1 HCC1 ⊢; have c12 := (blk_cell (blk_below HG.out hb) 12).trans rfl; obtain ⟨A2, c2, hcc2, hcut2, hD2⟩ := cutD HC1.out HCC1.out j HJ.out; have HD2 := Aside0.mk hD2; rw [HYS.out] at hcc2 hcut2 HD2; have HC2 := Aside0.mk (show Kd.C k44 w1 A2 ys.length ys from HD2.out w1 HC1.out); have HCC2 := Aside0.mk hcc2; rw [HJI.out] at hcut2; obtain ⟨_, hcut3, hT3⟩ := cutT (A := A2) hcc2 m HM.out; have HT3 := Aside0.mk hT3; rw [HZS.out] at hcut3 HT3; rw [HMI.out] at hcut3; clear hD2 hcc2 hT3;  clear ho hb hC1 hc1) | (at_builtin; refine Kd.R_append_rows k44 (w0 := w) w.heap.size rfl (.tmp 57) (.tmp 66) 39 44 (.agg #[(.int .i64 0), (.int .i64 0), (.int .i64 0), (.int .i64 0), (.int .i64 0), (.int .i64 0)]) 48 rfl Tryd.underlying39 info44 rfl (by decide) (by omega) (.slice none 0 0) [] zs _ _ _ (fun _ => True) (fun _ => False) rfl rfl (Kd.R_nil _ _ _ _ _) (HT3.out _ HC2.out) (fun x cs hK => by obtain rfl := k44_open hK; exact k44_mkM _ _ _ x) (fun _ h => h.elim) (fun _ _ => trivial) HB1.out HB1.out.size (by have := HZB.out; simp; omega) ?_; intro v9 w9 ho hb hg hat; have HR9 := Aside0.mk ho; have HB9 := Aside0.mk hb; clear ho hb hg hat))
      go_ret2
      rw [HGAP.out, HRES.out]
      rw [List.nil_append] at HR9
      exact ⟨_, rfl, HR9.out, HB9.out⟩
end Go.Proofs.YtbccjcdmpiolpaaDoor.T
end
