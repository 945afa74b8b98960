/- SegmentSendsCard: one part of the proof that the law answers true for every input, and that its arguments read afterwards as before. No condition. -/
import Derived.Test.YtbgabhknmpbgiaaDoorCSends4
import Derived.Outline
import Derived.Deep.OwnRows
section
namespace Go.Proofs.YtbgabhknmpbgiaaDoor.S
open Go.RowKit Go.Proofs.YtbgabhknmpbgiaaDoorW.PrintWords Go.Proofs.YtbgabhknmpbgiaaDoorW.PrintLast Go.Proofs.YtbgabhknmpbgiaaDoorW.PrintMore
attribute [local go_sem] max2_int min2_int max_two min_two max_three min_three max_four min_four
set_option linter.unusedVariables false
set_option linter.unusedSimpArgs false
mutual
def segment_Check.j0 : Nat → Bool → Int → Int → Int → Bool → Int → ByteArray → Option (Int)
  | 0, _, _, _, _, _, _, _ => none
  | k + 1, x3, x102000, x102001, x102002, x102003, x102004, x102005 => if x3 = true then ((segment_in.f x102001 0 255).bind fun t105 => (segment_Check.j1 k (!t105) x102000 x102001 x102002 x102003 x102004 x102005)) else (segment_Check.j1 k true x102000 x102001 x102002 x102003 x102004 x102005)
def segment_Check.j1 : Nat → Bool → Int → Int → Int → Bool → Int → ByteArray → Option (Int)
  | 0, _, _, _, _, _, _, _ => none
  | k + 1, x36, x102000, x102001, x102002, x102003, x102004, x102005 => if x36 = true then (some 6) else (if x102000 = 1 then (segment_Check.j2 k (decide ((x102005.size : Int) > 400)) x102000 x102001 x102002 x102003 x102004 x102005) else (segment_Check.j2 k false x102000 x102001 x102002 x102003 x102004 x102005))
def segment_Check.j2 : Nat → Bool → Int → Int → Int → Bool → Int → ByteArray → Option (Int)
  | 0, _, _, _, _, _, _, _ => none
  | k + 1, x45, x102000, x102001, x102002, x102003, x102004, x102005 => if x45 = true then (some 7) else (if x102000 = 1 then (some 0) else (if x102003 = true then (some 10) else (if x102005.toList = ([] : List UInt8) then (some 0) else (some 10))))
end
def segment_Check.f (k : Nat) (a0_0 : Int) (a0_1 : Int) (a0_2 : Int) (a0_3 : Bool) (a0_4 : Int) (a0_5 : ByteArray) : Option (Int) := if a0_0 = 1 then ((segment_in.f a0_2 0 63).bind fun t102 => (if t102 = true then ((segment_in.f a0_4 1 16).bind fun t103 => (segment_Check.j0 k t103 a0_0 a0_1 a0_2 a0_3 a0_4 a0_5)) else (segment_Check.j0 k false a0_0 a0_1 a0_2 a0_3 a0_4 a0_5))) else (if a0_0 = 2 then ((segment_in.f a0_2 (-1) 63).bind fun t104 => (if t104 = true then (segment_Check.j0 k (a0_4 == 0) a0_0 a0_1 a0_2 a0_3 a0_4 a0_5) else (segment_Check.j0 k false a0_0 a0_1 a0_2 a0_3 a0_4 a0_5))) else (if a0_0 = 3 then (if a0_2 = 0 then (segment_Check.j0 k (a0_4 == 0) a0_0 a0_1 a0_2 a0_3 a0_4 a0_5) else (segment_Check.j0 k false a0_0 a0_1 a0_2 a0_3 a0_4 a0_5)) else (some 3)))
set_option maxHeartbeats 8000000 in
set_option maxRecDepth 100000 in
theorem segment_Check.calls (k : Nat) (a0_0 : Int) (a0_1 : Int) (a0_2 : Int) (a0_3 : Bool) (a0_4 : Int) (a0_5 : ByteArray) (r : Int) (w : World) (hG : Glob w) (h : segment_Check.f k a0_0 a0_1 a0_2 a0_3 a0_4 a0_5 = some r) :
    Calls Tryd.prog 16 #[.agg #[.int .i64 a0_0, .int .i64 a0_1, .int .i64 a0_2, .bool a0_3, .int .i64 a0_4, .string a0_5]] w fun e w' => e = .returned (.int .i64 r) ∧ Below w.heap.size w w' := by
  have hu23 := Tryd.underlying23
  have HG := Aside0.mk hG
  clear hG
  have HB := Aside0.mk (Below.refl w.heap.size w)
  have H : (if a0_0 = 1 then ((segment_in.f a0_2 0 63).bind fun t102 => (if t102 = true then ((segment_in.f a0_4 1 16).bind fun t103 => (segment_Check.j0 k t103 a0_0 a0_1 a0_2 a0_3 a0_4 a0_5)) else (segment_Check.j0 k false a0_0 a0_1 a0_2 a0_3 a0_4 a0_5))) else (if a0_0 = 2 then ((segment_in.f a0_2 (-1) 63).bind fun t104 => (if t104 = true then (segment_Check.j0 k (a0_4 == 0) a0_0 a0_1 a0_2 a0_3 a0_4 a0_5) else (segment_Check.j0 k false a0_0 a0_1 a0_2 a0_3 a0_4 a0_5))) else (if a0_0 = 3 then (if a0_2 = 0 then (segment_Check.j0 k (a0_4 == 0) a0_0 a0_1 a0_2 a0_3 a0_4 a0_5) else (segment_Check.j0 k false a0_0 a0_1 a0_2 a0_3 a0_4 a0_5)) else (some 3)))) = some r := h
  clear h
  have HC2 := Aside0.mk H
  clear H
  go_enter Tryd.func16, Tryd.ntmps16
  go_upto_block 0 with (first | ((with_reducible refine gate_dst (N := 1) rfl ?_); (try (refine gate_guard (by rfl) ?_; dsimp only)); refine box_event ?hg (N := 1) ?hd (cs := #[.int .i64 a0_0, .int .i64 a0_1, .int .i64 a0_2, .bool a0_3, .int .i64 a0_4, .string a0_5]) (t := 23) ?hr ?_; (case hd => rfl); (case hg => rfl); (case hr => first | (go_simp; done) | (go_simp; rfl)); intro gb101 hg w3 hbox hb; have n0_ := Aside0.mk (below_step (by repeat (first | (with_reducible first | exact HB.out | apply below_alloc | apply pw_below_drewN | apply below_drew1) | exact HB.out)) hb); have n1_ := Aside0.mk (hbox); have n2_ := Aside0.mk ((by rw [hg]; exact (below_size (by repeat (first | (with_reducible first | exact HB.out | apply below_alloc | apply pw_below_drewN | apply below_drew1) | exact HB.out))) : w.heap.size ≤ gb101)); have n3_ := Aside0.mk ((by rw [hg]; exact (below_size (by repeat (first | (with_reducible first | exact HB.out | apply below_alloc | apply pw_below_drewN | apply below_drew1) | exact HB.out))) : w.heap.size ≤ gb101)); clear HB; have HB := n0_; have BK101 := n1_; have GW101 := n2_; have GE101 := n3_; clear n0_ n1_ n2_ n3_; clear hb hbox hg; have hcz4_0 : w3.cell? ⟨gb101, 0, none⟩ = some (.int .i64 a0_0) := (blk_cell BK101.out 0).trans rfl; have hcz4_1 : w3.cell? ⟨gb101, 1, none⟩ = some (.int .i64 a0_1) := (blk_cell BK101.out 1).trans rfl; have hcz4_2 : w3.cell? ⟨gb101, 2, none⟩ = some (.int .i64 a0_2) := (blk_cell BK101.out 2).trans rfl; have hcz4_3 : w3.cell? ⟨gb101, 3, none⟩ = some (.bool a0_3) := (blk_cell BK101.out 3).trans rfl; have hcz4_4 : w3.cell? ⟨gb101, 4, none⟩ = some (.int .i64 a0_4) := (blk_cell BK101.out 4).trans rfl; have hcz4_5 : w3.cell? ⟨gb101, 5, none⟩ = some (.string a0_5) := (blk_cell BK101.out 5).trans rfl; have hfz4_0 := blk_frozen BK101.out 0; have hfz4_1 := blk_frozen BK101.out 1; have hfz4_2 := blk_frozen BK101.out 2; have hfz4_3 := blk_frozen BK101.out 3; have hfz4_4 := blk_frozen BK101.out 4; have hfz4_5 := blk_frozen BK101.out 5))
  (try simp only [Act.put, List.setIfInBounds_toArray, List.set_cons_zero, List.set_cons_succ])
  go_cut [3] (fun v3 wc => ∃ (kq : Nat) (x3_1 : Bool), v3 = .bool x3_1 ∧ Aside0 (segment_Check.j0 kq x3_1 a0_0 a0_1 a0_2 a0_3 a0_4 a0_5 = some r) ∧ Aside0 (kq ≤ k) ∧ Aside0 (wc.heap[gb101]? = some (.cells #[.int .i64 a0_0, .int .i64 a0_1, .int .i64 a0_2, .bool a0_3, .int .i64 a0_4, .string a0_5] 23 (0, 0))) ∧ Aside0 (Below w.heap.size w wc))
  case first =>
    have H := HC2.out
    clear HC2
    by_cases c5 : a0_0 = 1
    · rw [if_pos c5] at H
      have c5b0 : (a0_0 == 1) = true := beq_iff_eq.mpr c5
      have c5b1 : (a0_0 != 1) = false := bne_eq_false_iff_eq.mpr c5
      clear c5
      (first | rw [c5b0] | (simp only [i64_w, i32_w]; rw [c5b0]) | skip)
      replace H := Option.bind_eq_some_iff.mp H
      obtain ⟨t102, A60, H⟩ := H
      replace H : (if t102 = true then ((segment_in.f a0_4 1 16).bind fun t103 => (segment_Check.j0 k t103 a0_0 a0_1 a0_2 a0_3 a0_4 a0_5)) else (segment_Check.j0 k false a0_0 a0_1 a0_2 a0_3 a0_4 a0_5)) = some r := H
      have A6 := Aside0.mk A60
      clear A60
      by_cases c7 : t102 = true
      · subst c7
        have H1 : ((segment_in.f a0_4 1 16).bind fun t103 => (segment_Check.j0 k t103 a0_0 a0_1 a0_2 a0_3 a0_4 a0_5)) = some r := by rw [if_pos rfl] at H; exact H
        clear H
        have H := H1
        clear H1
        replace H := Option.bind_eq_some_iff.mp H
        obtain ⟨t103, A80, H⟩ := H
        replace H : (segment_Check.j0 k t103 a0_0 a0_1 a0_2 a0_3 a0_4 a0_5) = some r := H
        have A8 := Aside0.mk A80
        clear A80
        have H' := Aside0.mk H
        clear H
        have hcz9_0 : w3.cell? ⟨gb101, 0, none⟩ = some (.int .i64 a0_0) := (blk_cell BK101.out 0).trans rfl
        have hcz9_1 : w3.cell? ⟨gb101, 1, none⟩ = some (.int .i64 a0_1) := (blk_cell BK101.out 1).trans rfl
        have hcz9_2 : w3.cell? ⟨gb101, 2, none⟩ = some (.int .i64 a0_2) := (blk_cell BK101.out 2).trans rfl
        have hcz9_3 : w3.cell? ⟨gb101, 3, none⟩ = some (.bool a0_3) := (blk_cell BK101.out 3).trans rfl
        have hcz9_4 : w3.cell? ⟨gb101, 4, none⟩ = some (.int .i64 a0_4) := (blk_cell BK101.out 4).trans rfl
        have hcz9_5 : w3.cell? ⟨gb101, 5, none⟩ = some (.string a0_5) := (blk_cell BK101.out 5).trans rfl
        have hfz9_0 := blk_frozen BK101.out 0
        have hfz9_1 := blk_frozen BK101.out 1
        have hfz9_2 := blk_frozen BK101.out 2
        have hfz9_3 := blk_frozen BK101.out 3
        have hfz9_4 := blk_frozen BK101.out 4
        have hfz9_5 := blk_frozen BK101.out 5
        go_wp2_with (first | ((with_reducible refine gate_callee (f := 58) rfl ?_); refine goesL_ (some 10) rfl rfl Tryd.func58 (by kernel_rfl) rfl #[.int .i64 a0_2, .int .i64 0, .int .i64 63] rfl (by (try simp only [List.map_toArray, List.map_cons, List.map_nil]); first | done | rfl | (simp only [List.length_drop, List.length_take]; rfl)) ?_; (with_reducible refine (segment_in.calls a0_2 0 63 true _ ?side99  A6.out).mono ?_); (case side99 => first | exact HG.out | exact Glob.below HG.out (by repeat (first | (with_reducible first | exact HB.out | apply below_alloc | apply pw_below_drewN | apply below_drew1 | refine below_set ?_ GE101.out) | exact HB.out))); rintro e w' ⟨rfl, ⟨nd, rfl⟩⟩; refine ⟨_, rfl, ?_⟩) | (go_at_call 58; (with_reducible refine (segment_in.calls a0_4 1 16 t103 _ ?side99  A8.out).mono ?_); (case side99 => first | exact HG.out | exact Glob.below HG.out (by repeat (first | (with_reducible first | exact HB.out | apply below_alloc | apply pw_below_drewN | apply below_drew1 | refine below_set ?_ GE101.out) | exact HB.out))); rintro e w' ⟨rfl, ⟨nd, rfl⟩⟩))
        go_meet
        case rel => exact ⟨_, (t103), (by first | rfl | (simp; done) | (simp [*]; done)), H', ⟨by first | omega | exact Nat.le_refl _⟩, ⟨by (with_reducible repeat (first | refine blk_drewN ?_ _ | refine blk_drew ?_ | refine blk_alloc ?_ _)); exact BK101.out⟩, ⟨by repeat (first | (with_reducible first | exact HB.out | apply below_alloc | apply pw_below_drewN | apply below_drew1 | refine below_set ?_ GE101.out) | exact HB.out)⟩⟩
      · replace c7 := Bool.eq_false_iff.mpr c7
        subst c7
        have H1 : (segment_Check.j0 k false a0_0 a0_1 a0_2 a0_3 a0_4 a0_5) = some r := by rw [if_neg (show ¬ (false = true) by decide)] at H; exact H
        clear H
        have H := H1
        clear H1
        have H' := Aside0.mk H
        clear H
        have hcz10_0 : w3.cell? ⟨gb101, 0, none⟩ = some (.int .i64 a0_0) := (blk_cell BK101.out 0).trans rfl
        have hcz10_1 : w3.cell? ⟨gb101, 1, none⟩ = some (.int .i64 a0_1) := (blk_cell BK101.out 1).trans rfl
        have hcz10_2 : w3.cell? ⟨gb101, 2, none⟩ = some (.int .i64 a0_2) := (blk_cell BK101.out 2).trans rfl
        have hcz10_3 : w3.cell? ⟨gb101, 3, none⟩ = some (.bool a0_3) := (blk_cell BK101.out 3).trans rfl
        have hcz10_4 : w3.cell? ⟨gb101, 4, none⟩ = some (.int .i64 a0_4) := (blk_cell BK101.out 4).trans rfl
        have hcz10_5 : w3.cell? ⟨gb101, 5, none⟩ = some (.string a0_5) := (blk_cell BK101.out 5).trans rfl
        have hfz10_0 := blk_frozen BK101.out 0
        have hfz10_1 := blk_frozen BK101.out 1
        have hfz10_2 := blk_frozen BK101.out 2
        have hfz10_3 := blk_frozen BK101.out 3
        have hfz10_4 := blk_frozen BK101.out 4
        have hfz10_5 := blk_frozen BK101.out 5
        go_wp2_with (first | ((with_reducible refine gate_callee (f := 58) rfl ?_); refine goesL_ (some 10) rfl rfl Tryd.func58 (by kernel_rfl) rfl #[.int .i64 a0_2, .int .i64 0, .int .i64 63] rfl (by (try simp only [List.map_toArray, List.map_cons, List.map_nil]); first | done | rfl | (simp only [List.length_drop, List.length_take]; rfl)) ?_; (with_reducible refine (segment_in.calls a0_2 0 63 false _ ?side99  A6.out).mono ?_); (case side99 => first | exact HG.out | exact Glob.below HG.out (by repeat (first | (with_reducible first | exact HB.out | apply below_alloc | apply pw_below_drewN | apply below_drew1 | refine below_set ?_ GE101.out) | exact HB.out))); rintro e w' ⟨rfl, ⟨nd, rfl⟩⟩; refine ⟨_, rfl, ?_⟩))
        go_meet
        case rel => exact ⟨_, (false), (by first | rfl | (simp; done) | (simp [*]; done)), H', ⟨by first | omega | exact Nat.le_refl _⟩, ⟨by (with_reducible repeat (first | refine blk_drewN ?_ _ | refine blk_drew ?_ | refine blk_alloc ?_ _)); exact BK101.out⟩, ⟨by repeat (first | (with_reducible first | exact HB.out | apply below_alloc | apply pw_below_drewN | apply below_drew1 | refine below_set ?_ GE101.out) | exact HB.out)⟩⟩
    · rw [if_neg c5] at H
      have c5b0 : (a0_0 == 1) = false := beq_eq_false_iff_ne.mpr c5
      have c5b1 : (a0_0 != 1) = true := bne_iff_ne.mpr c5
      (first | rw [c5b0] | (simp only [i64_w, i32_w]; rw [c5b0]) | skip)
      by_cases c11 : a0_0 = 2
      · rw [if_pos c11] at H
        have c11b0 : (a0_0 == 2) = true := beq_iff_eq.mpr c11
        have c11b1 : (a0_0 != 2) = false := bne_eq_false_iff_eq.mpr c11
        clear c11
        replace H := Option.bind_eq_some_iff.mp H
        obtain ⟨t104, A120, H⟩ := H
        replace H : (if t104 = true then (segment_Check.j0 k (a0_4 == 0) a0_0 a0_1 a0_2 a0_3 a0_4 a0_5) else (segment_Check.j0 k false a0_0 a0_1 a0_2 a0_3 a0_4 a0_5)) = some r := H
        have A12 := Aside0.mk A120
        clear A120
        by_cases c13 : t104 = true
        · subst c13
          have H1 : (segment_Check.j0 k (a0_4 == 0) a0_0 a0_1 a0_2 a0_3 a0_4 a0_5) = some r := by rw [if_pos rfl] at H; exact H
          clear H
          have H := H1
          clear H1
          have H' := Aside0.mk H
          clear H
          have hcz14_0 : w3.cell? ⟨gb101, 0, none⟩ = some (.int .i64 a0_0) := (blk_cell BK101.out 0).trans rfl
          have hcz14_1 : w3.cell? ⟨gb101, 1, none⟩ = some (.int .i64 a0_1) := (blk_cell BK101.out 1).trans rfl
          have hcz14_2 : w3.cell? ⟨gb101, 2, none⟩ = some (.int .i64 a0_2) := (blk_cell BK101.out 2).trans rfl
          have hcz14_3 : w3.cell? ⟨gb101, 3, none⟩ = some (.bool a0_3) := (blk_cell BK101.out 3).trans rfl
          have hcz14_4 : w3.cell? ⟨gb101, 4, none⟩ = some (.int .i64 a0_4) := (blk_cell BK101.out 4).trans rfl
          have hcz14_5 : w3.cell? ⟨gb101, 5, none⟩ = some (.string a0_5) := (blk_cell BK101.out 5).trans rfl
          have hfz14_0 := blk_frozen BK101.out 0
          have hfz14_1 := blk_frozen BK101.out 1
          have hfz14_2 := blk_frozen BK101.out 2
          have hfz14_3 := blk_frozen BK101.out 3
          have hfz14_4 := blk_frozen BK101.out 4
          have hfz14_5 := blk_frozen BK101.out 5
          go_wp2_with (first | ((with_reducible refine gate_callee (f := 58) rfl ?_); refine goesL_ (some 20) rfl rfl Tryd.func58 (by kernel_rfl) rfl #[.int .i64 a0_2, .int .i64 (-1), .int .i64 63] rfl (by (try simp only [List.map_toArray, List.map_cons, List.map_nil]); first | done | rfl | (simp only [List.length_drop, List.length_take]; rfl)) ?_; (with_reducible refine (segment_in.calls a0_2 (-1) 63 true _ ?side99  A12.out).mono ?_); (case side99 => first | exact HG.out | exact Glob.below HG.out (by repeat (first | (with_reducible first | exact HB.out | apply below_alloc | apply pw_below_drewN | apply below_drew1 | refine below_set ?_ GE101.out) | exact HB.out))); rintro e w' ⟨rfl, ⟨nd, rfl⟩⟩; refine ⟨_, rfl, ?_⟩))
          go_meet
          case rel => exact ⟨_, ((a0_4 == 0)), (by first | rfl | (simp; done) | (simp [*]; done)), H', ⟨by first | omega | exact Nat.le_refl _⟩, ⟨by (with_reducible repeat (first | refine blk_drewN ?_ _ | refine blk_drew ?_ | refine blk_alloc ?_ _)); exact BK101.out⟩, ⟨by repeat (first | (with_reducible first | exact HB.out | apply below_alloc | apply pw_below_drewN | apply below_drew1 | refine below_set ?_ GE101.out) | exact HB.out)⟩⟩
        · replace c13 := Bool.eq_false_iff.mpr c13
          subst c13
          have H1 : (segment_Check.j0 k false a0_0 a0_1 a0_2 a0_3 a0_4 a0_5) = some r := by rw [if_neg (show ¬ (false = true) by decide)] at H; exact H
          clear H
          have H := H1
          clear H1
          have H' := Aside0.mk H
          clear H
          have hcz15_0 : w3.cell? ⟨gb101, 0, none⟩ = some (.int .i64 a0_0) := (blk_cell BK101.out 0).trans rfl
          have hcz15_1 : w3.cell? ⟨gb101, 1, none⟩ = some (.int .i64 a0_1) := (blk_cell BK101.out 1).trans rfl
          have hcz15_2 : w3.cell? ⟨gb101, 2, none⟩ = some (.int .i64 a0_2) := (blk_cell BK101.out 2).trans rfl
          have hcz15_3 : w3.cell? ⟨gb101, 3, none⟩ = some (.bool a0_3) := (blk_cell BK101.out 3).trans rfl
          have hcz15_4 : w3.cell? ⟨gb101, 4, none⟩ = some (.int .i64 a0_4) := (blk_cell BK101.out 4).trans rfl
          have hcz15_5 : w3.cell? ⟨gb101, 5, none⟩ = some (.string a0_5) := (blk_cell BK101.out 5).trans rfl
          have hfz15_0 := blk_frozen BK101.out 0
          have hfz15_1 := blk_frozen BK101.out 1
          have hfz15_2 := blk_frozen BK101.out 2
          have hfz15_3 := blk_frozen BK101.out 3
          have hfz15_4 := blk_frozen BK101.out 4
          have hfz15_5 := blk_frozen BK101.out 5
          go_wp2_with (first | ((with_reducible refine gate_callee (f := 58) rfl ?_); refine goesL_ (some 20) rfl rfl Tryd.func58 (by kernel_rfl) rfl #[.int .i64 a0_2, .int .i64 (-1), .int .i64 63] rfl (by (try simp only [List.map_toArray, List.map_cons, List.map_nil]); first | done | rfl | (simp only [List.length_drop, List.length_take]; rfl)) ?_; (with_reducible refine (segment_in.calls a0_2 (-1) 63 false _ ?side99  A12.out).mono ?_); (case side99 => first | exact HG.out | exact Glob.below HG.out (by repeat (first | (with_reducible first | exact HB.out | apply below_alloc | apply pw_below_drewN | apply below_drew1 | refine below_set ?_ GE101.out) | exact HB.out))); rintro e w' ⟨rfl, ⟨nd, rfl⟩⟩; refine ⟨_, rfl, ?_⟩))
          go_meet
          case rel => exact ⟨_, (false), (by first | rfl | (simp; done) | (simp [*]; done)), H', ⟨by first | omega | exact Nat.le_refl _⟩, ⟨by (with_reducible repeat (first | refine blk_drewN ?_ _ | refine blk_drew ?_ | refine blk_alloc ?_ _)); exact BK101.out⟩, ⟨by repeat (first | (with_reducible first | exact HB.out | apply below_alloc | apply pw_below_drewN | apply below_drew1 | refine below_set ?_ GE101.out) | exact HB.out)⟩⟩
      · rw [if_neg c11] at H
        have c11b0 : (a0_0 == 2) = false := beq_eq_false_iff_ne.mpr c11
        have c11b1 : (a0_0 != 2) = true := bne_iff_ne.mpr c11
        by_cases c16 : a0_0 = 3
        · rw [if_pos c16] at H
          have c16b0 : (a0_0 == 3) = true := beq_iff_eq.mpr c16
          have c16b1 : (a0_0 != 3) = false := bne_eq_false_iff_eq.mpr c16
          clear c16
          by_cases c17 : a0_2 = 0
          · rw [if_pos c17] at H
            have c17b0 : (a0_2 == 0) = true := beq_iff_eq.mpr c17
            have c17b1 : (a0_2 != 0) = false := bne_eq_false_iff_eq.mpr c17
            clear c17
            have H' := Aside0.mk H
            clear H
            have hcz18_0 : w3.cell? ⟨gb101, 0, none⟩ = some (.int .i64 a0_0) := (blk_cell BK101.out 0).trans rfl
            have hcz18_1 : w3.cell? ⟨gb101, 1, none⟩ = some (.int .i64 a0_1) := (blk_cell BK101.out 1).trans rfl
            have hcz18_2 : w3.cell? ⟨gb101, 2, none⟩ = some (.int .i64 a0_2) := (blk_cell BK101.out 2).trans rfl
            have hcz18_3 : w3.cell? ⟨gb101, 3, none⟩ = some (.bool a0_3) := (blk_cell BK101.out 3).trans rfl
            have hcz18_4 : w3.cell? ⟨gb101, 4, none⟩ = some (.int .i64 a0_4) := (blk_cell BK101.out 4).trans rfl
            have hcz18_5 : w3.cell? ⟨gb101, 5, none⟩ = some (.string a0_5) := (blk_cell BK101.out 5).trans rfl
            have hfz18_0 := blk_frozen BK101.out 0
            have hfz18_1 := blk_frozen BK101.out 1
            have hfz18_2 := blk_frozen BK101.out 2
            have hfz18_3 := blk_frozen BK101.out 3
            have hfz18_4 := blk_frozen BK101.out 4
            have hfz18_5 := blk_frozen BK101.out 5
            go_wp2
            go_meet
            case rel => exact ⟨_, ((a0_4 == 0)), (by first | rfl | (simp; done) | (simp [*]; done)), H', ⟨by first | omega | exact Nat.le_refl _⟩, ⟨by (with_reducible repeat (first | refine blk_drewN ?_ _ | refine blk_drew ?_ | refine blk_alloc ?_ _)); exact BK101.out⟩, ⟨by repeat (first | (with_reducible first | exact HB.out | apply below_alloc | apply pw_below_drewN | apply below_drew1 | refine below_set ?_ GE101.out) | exact HB.out)⟩⟩
          · rw [if_neg c17] at H
            have c17b0 : (a0_2 == 0) = false := beq_eq_false_iff_ne.mpr c17
            have c17b1 : (a0_2 != 0) = true := bne_iff_ne.mpr c17
            have H' := Aside0.mk H
            clear H
            have hcz19_0 : w3.cell? ⟨gb101, 0, none⟩ = some (.int .i64 a0_0) := (blk_cell BK101.out 0).trans rfl
            have hcz19_1 : w3.cell? ⟨gb101, 1, none⟩ = some (.int .i64 a0_1) := (blk_cell BK101.out 1).trans rfl
            have hcz19_2 : w3.cell? ⟨gb101, 2, none⟩ = some (.int .i64 a0_2) := (blk_cell BK101.out 2).trans rfl
            have hcz19_3 : w3.cell? ⟨gb101, 3, none⟩ = some (.bool a0_3) := (blk_cell BK101.out 3).trans rfl
            have hcz19_4 : w3.cell? ⟨gb101, 4, none⟩ = some (.int .i64 a0_4) := (blk_cell BK101.out 4).trans rfl
            have hcz19_5 : w3.cell? ⟨gb101, 5, none⟩ = some (.string a0_5) := (blk_cell BK101.out 5).trans rfl
            have hfz19_0 := blk_frozen BK101.out 0
            have hfz19_1 := blk_frozen BK101.out 1
            have hfz19_2 := blk_frozen BK101.out 2
            have hfz19_3 := blk_frozen BK101.out 3
            have hfz19_4 := blk_frozen BK101.out 4
            have hfz19_5 := blk_frozen BK101.out 5
            go_wp2
            go_meet
            case rel => exact ⟨_, (false), (by first | rfl | (simp; done) | (simp [*]; done)), H', ⟨by first | omega | exact Nat.le_refl _⟩, ⟨by (with_reducible repeat (first | refine blk_drewN ?_ _ | refine blk_drew ?_ | refine blk_alloc ?_ _)); exact BK101.out⟩, ⟨by repeat (first | (with_reducible first | exact HB.out | apply below_alloc | apply pw_below_drewN | apply below_drew1 | refine below_set ?_ GE101.out) | exact HB.out)⟩⟩
        · rw [if_neg c16] at H
          have c16b0 : (a0_0 == 3) = false := beq_eq_false_iff_ne.mpr c16
          have c16b1 : (a0_0 != 3) = true := bne_iff_ne.mpr c16
          obtain rfl := Option.some.inj H
          go_wp2
          go_ret
          exact ⟨by first | rfl | (simp [errW_none, errW_some] <;> rfl) | (simp [*, errW_none, errW_some] <;> rfl), by repeat (first | (with_reducible first | exact HB.out | apply below_alloc | apply pw_below_drewN | apply below_drew1 | refine below_set ?_ GE101.out) | exact HB.out)⟩
  case rest =>
    clear HC2
    try clear c1
    try clear p2
    try clear c5
    try clear c5b0
    try clear c5b1
    try clear c7
    try clear c11
    try clear c11b0
    try clear c11b1
    try clear c13
    try clear c16
    try clear c16b0
    try clear c16b1
    try clear c17
    try clear c17b0
    try clear c17b1
    try clear hcz10_0
    try clear hcz10_1
    try clear hcz10_2
    try clear hcz10_3
    try clear hcz10_4
    try clear hcz10_5
    try clear hcz14_0
    try clear hcz14_1
    try clear hcz14_2
    try clear hcz14_3
    try clear hcz14_4
    try clear hcz14_5
    try clear hcz15_0
    try clear hcz15_1
    try clear hcz15_2
    try clear hcz15_3
    try clear hcz15_4
    try clear hcz15_5
    try clear hcz18_0
    try clear hcz18_1
    try clear hcz18_2
    try clear hcz18_3
    try clear hcz18_4
    try clear hcz18_5
    try clear hcz19_0
    try clear hcz19_1
    try clear hcz19_2
    try clear hcz19_3
    try clear hcz19_4
    try clear hcz19_5
    try clear hcz4_0
    try clear hcz4_1
    try clear hcz4_2
    try clear hcz4_3
    try clear hcz4_4
    try clear hcz4_5
    try clear hcz9_0
    try clear hcz9_1
    try clear hcz9_2
    try clear hcz9_3
    try clear hcz9_4
    try clear hcz9_5
    try clear hfz10_0
    try clear hfz10_1
    try clear hfz10_2
    try clear hfz10_3
    try clear hfz10_4
    try clear hfz10_5
    try clear hfz14_0
    try clear hfz14_1
    try clear hfz14_2
    try clear hfz14_3
    try clear hfz14_4
    try clear hfz14_5
    try clear hfz15_0
    try clear hfz15_1
    try clear hfz15_2
    try clear hfz15_3
    try clear hfz15_4
    try clear hfz15_5
    try clear hfz18_0
    try clear hfz18_1
    try clear hfz18_2
    try clear hfz18_3
    try clear hfz18_4
    try clear hfz18_5
    try clear hfz19_0
    try clear hfz19_1
    try clear hfz19_2
    try clear hfz19_3
    try clear hfz19_4
    try clear hfz19_5
    try clear hfz4_0
    try clear hfz4_1
    try clear hfz4_2
    try clear hfz4_3
    try clear hfz4_4
    try clear hfz4_5
    try clear hfz9_0
    try clear hfz9_1
    try clear hfz9_2
    try clear hfz9_3
    try clear hfz9_4
    try clear hfz9_5
    obtain ⟨kq, x3_1, rfl, HA, HJ1, BK101, HB⟩ := hcut
    cases kq with
    | zero => exact absurd HA.out (by simp [segment_Check.j0])
    | succ kj1 =>
      have H := HA.out
      clear HA
      simp only [segment_Check.j0] at H
      have HC20 := Aside0.mk H
      clear H
      go_upto_region 10 with (fail)
      go_cut [36] (fun v36 wc => ∃ (kq : Nat) (x36_19 : Bool), v36 = .bool x36_19 ∧ Aside0 (segment_Check.j1 kq x36_19 a0_0 a0_1 a0_2 a0_3 a0_4 a0_5 = some r) ∧ Aside0 (kq ≤ kj1) ∧ Aside0 (wc.heap[gb101]? = some (.cells #[.int .i64 a0_0, .int .i64 a0_1, .int .i64 a0_2, .bool a0_3, .int .i64 a0_4, .string a0_5] 23 (0, 0))) ∧ Aside0 (Below w.heap.size w wc))
      case first =>
        have H := HC20.out
        clear HC20
        by_cases c21 : x3_1 = true
        · subst c21
          have H1 : ((segment_in.f a0_1 0 255).bind fun t105 => (segment_Check.j1 kj1 (!t105) a0_0 a0_1 a0_2 a0_3 a0_4 a0_5)) = some r := by rw [if_pos rfl] at H; exact H
          clear H
          have H := H1
          clear H1
          replace H := Option.bind_eq_some_iff.mp H
          obtain ⟨t105, A220, H⟩ := H
          replace H : (segment_Check.j1 kj1 (!t105) a0_0 a0_1 a0_2 a0_3 a0_4 a0_5) = some r := H
          have A22 := Aside0.mk A220
          clear A220
          have H' := Aside0.mk H
          clear H
          have hcz23_0 : wc.cell? ⟨gb101, 0, none⟩ = some (.int .i64 a0_0) := (blk_cell BK101.out 0).trans rfl
          have hcz23_1 : wc.cell? ⟨gb101, 1, none⟩ = some (.int .i64 a0_1) := (blk_cell BK101.out 1).trans rfl
          have hcz23_2 : wc.cell? ⟨gb101, 2, none⟩ = some (.int .i64 a0_2) := (blk_cell BK101.out 2).trans rfl
          have hcz23_3 : wc.cell? ⟨gb101, 3, none⟩ = some (.bool a0_3) := (blk_cell BK101.out 3).trans rfl
          have hcz23_4 : wc.cell? ⟨gb101, 4, none⟩ = some (.int .i64 a0_4) := (blk_cell BK101.out 4).trans rfl
          have hcz23_5 : wc.cell? ⟨gb101, 5, none⟩ = some (.string a0_5) := (blk_cell BK101.out 5).trans rfl
          have hfz23_0 := blk_frozen BK101.out 0
          have hfz23_1 := blk_frozen BK101.out 1
          have hfz23_2 := blk_frozen BK101.out 2
          have hfz23_3 := blk_frozen BK101.out 3
          have hfz23_4 := blk_frozen BK101.out 4
          have hfz23_5 := blk_frozen BK101.out 5
          go_wp2_with (first | (go_at_call 58; (with_reducible refine (segment_in.calls a0_1 0 255 t105 _ ?side99  A22.out).mono ?_); (case side99 => first | exact HG.out | exact Glob.below HG.out (by repeat (first | (with_reducible first | exact HB.out | apply below_alloc | apply pw_below_drewN | apply below_drew1 | refine below_set ?_ GE101.out) | exact HB.out))); rintro e w' ⟨rfl, ⟨nd, rfl⟩⟩))
          go_meet
          case rel => exact ⟨_, (!t105), (by first | rfl | (simp; done) | (simp [*]; done)), H', ⟨by have := HJ1.out; first | omega | exact Nat.le_refl _⟩, ⟨by (with_reducible repeat (first | refine blk_drewN ?_ _ | refine blk_drew ?_ | refine blk_alloc ?_ _)); exact BK101.out⟩, ⟨by repeat (first | (with_reducible first | exact HB.out | apply below_alloc | apply pw_below_drewN | apply below_drew1 | refine below_set ?_ GE101.out) | exact HB.out)⟩⟩
        · replace c21 := Bool.eq_false_iff.mpr c21
          subst c21
          have H1 : (segment_Check.j1 kj1 true a0_0 a0_1 a0_2 a0_3 a0_4 a0_5) = some r := by rw [if_neg (show ¬ (false = true) by decide)] at H; exact H
          clear H
          have H := H1
          clear H1
          have H' := Aside0.mk H
          clear H
          go_wp2
          go_meet
          case rel => exact ⟨_, (true), (by first | rfl | (simp; done) | (simp [*]; done)), H', ⟨by have := HJ1.out; first | omega | exact Nat.le_refl _⟩, ⟨by (with_reducible repeat (first | refine blk_drewN ?_ _ | refine blk_drew ?_ | refine blk_alloc ?_ _)); exact BK101.out⟩, ⟨by repeat (first | (with_reducible first | exact HB.out | apply below_alloc | apply pw_below_drewN | apply below_drew1 | refine below_set ?_ GE101.out) | exact HB.out)⟩⟩
      case rest =>
        clear HC20
        try clear c1
        try clear c2
        try clear p2
        try clear c5
        try clear c5b0
        try clear c5b1
        try clear c7
        try clear c11
        try clear c11b0
        try clear c11b1
        try clear c13
        try clear c16
        try clear c16b0
        try clear c16b1
        try clear c17
        try clear c17b0
        try clear c17b1
        try clear c21
        try clear hcz10_0
        try clear hcz10_1
        try clear hcz10_2
        try clear hcz10_3
        try clear hcz10_4
        try clear hcz10_5
        try clear hcz14_0
        try clear hcz14_1
        try clear hcz14_2
        try clear hcz14_3
        try clear hcz14_4
        try clear hcz14_5
        try clear hcz15_0
        try clear hcz15_1
        try clear hcz15_2
        try clear hcz15_3
        try clear hcz15_4
        try clear hcz15_5
        try clear hcz18_0
        try clear hcz18_1
        try clear hcz18_2
        try clear hcz18_3
        try clear hcz18_4
        try clear hcz18_5
        try clear hcz19_0
        try clear hcz19_1
        try clear hcz19_2
        try clear hcz19_3
        try clear hcz19_4
        try clear hcz19_5
        try clear hcz23_0
        try clear hcz23_1
        try clear hcz23_2
        try clear hcz23_3
        try clear hcz23_4
        try clear hcz23_5
        try clear hcz4_0
        try clear hcz4_1
        try clear hcz4_2
        try clear hcz4_3
        try clear hcz4_4
        try clear hcz4_5
        try clear hcz9_0
        try clear hcz9_1
        try clear hcz9_2
        try clear hcz9_3
        try clear hcz9_4
        try clear hcz9_5
        try clear hfz10_0
        try clear hfz10_1
        try clear hfz10_2
        try clear hfz10_3
        try clear hfz10_4
        try clear hfz10_5
        try clear hfz14_0
        try clear hfz14_1
        try clear hfz14_2
        try clear hfz14_3
        try clear hfz14_4
        try clear hfz14_5
        try clear hfz15_0
        try clear hfz15_1
        try clear hfz15_2
        try clear hfz15_3
        try clear hfz15_4
        try clear hfz15_5
        try clear hfz18_0
        try clear hfz18_1
        try clear hfz18_2
        try clear hfz18_3
        try clear hfz18_4
        try clear hfz18_5
        try clear hfz19_0
        try clear hfz19_1
        try clear hfz19_2
        try clear hfz19_3
        try clear hfz19_4
        try clear hfz19_5
        try clear hfz23_0
        try clear hfz23_1
        try clear hfz23_2
        try clear hfz23_3
        try clear hfz23_4
        try clear hfz23_5
        try clear hfz4_0
        try clear hfz4_1
        try clear hfz4_2
        try clear hfz4_3
        try clear hfz4_4
        try clear hfz4_5
        try clear hfz9_0
        try clear hfz9_1
        try clear hfz9_2
        try clear hfz9_3
        try clear hfz9_4
        try clear hfz9_5
        try clear p2
        obtain ⟨kq, x36_19, rfl, HA, HJ19, BK101, HB⟩ := hcut
        cases kq with
        | zero => exact absurd HA.out (by simp [segment_Check.j1])
        | succ kj19 =>
          have H := HA.out
          clear HA
          simp only [segment_Check.j1] at H
          by_cases c24 : x36_19 = true
          · subst c24
            have H1 : (some 6) = some r := by rw [if_pos rfl] at H; exact H
            clear H
            have H := H1
            clear H1
            obtain rfl := Option.some.inj H
            go_wp2
            go_ret
            exact ⟨by first | rfl | (simp [errW_none, errW_some] <;> rfl) | (simp [*, errW_none, errW_some] <;> rfl), by repeat (first | (with_reducible first | exact HB.out | apply below_alloc | apply pw_below_drewN | apply below_drew1 | refine below_set ?_ GE101.out) | exact HB.out)⟩
          · replace c24 := Bool.eq_false_iff.mpr c24
            subst c24
            have H1 : (if a0_0 = 1 then (segment_Check.j2 kj19 (decide ((a0_5.size : Int) > 400)) a0_0 a0_1 a0_2 a0_3 a0_4 a0_5) else (segment_Check.j2 kj19 false a0_0 a0_1 a0_2 a0_3 a0_4 a0_5)) = some r := by rw [if_neg (show ¬ (false = true) by decide)] at H; exact H
            clear H
            have H := H1
            clear H1
            have HC25 := Aside0.mk H
            clear H
            go_upto_region 12 with (fail)
            go_cut [45] (fun v45 wc => ∃ (kq : Nat) (x45_24 : Bool), v45 = .bool x45_24 ∧ Aside0 (segment_Check.j2 kq x45_24 a0_0 a0_1 a0_2 a0_3 a0_4 a0_5 = some r) ∧ Aside0 (kq ≤ kj19) ∧ Aside0 (wc.heap[gb101]? = some (.cells #[.int .i64 a0_0, .int .i64 a0_1, .int .i64 a0_2, .bool a0_3, .int .i64 a0_4, .string a0_5] 23 (0, 0))) ∧ Aside0 (Below w.heap.size w wc))
            case first =>
              have H := HC25.out
              clear HC25
              by_cases c26 : a0_0 = 1
              · rw [if_pos c26] at H
                have c26b0 : (a0_0 == 1) = true := beq_iff_eq.mpr c26
                have c26b1 : (a0_0 != 1) = false := bne_eq_false_iff_eq.mpr c26
                clear c26
                (first | rw [c26b0] | (simp only [i64_w, i32_w]; rw [c26b0]) | skip)
                have H' := Aside0.mk H
                clear H
                have hcz27_0 : wc.cell? ⟨gb101, 0, none⟩ = some (.int .i64 a0_0) := (blk_cell BK101.out 0).trans rfl
                have hcz27_1 : wc.cell? ⟨gb101, 1, none⟩ = some (.int .i64 a0_1) := (blk_cell BK101.out 1).trans rfl
                have hcz27_2 : wc.cell? ⟨gb101, 2, none⟩ = some (.int .i64 a0_2) := (blk_cell BK101.out 2).trans rfl
                have hcz27_3 : wc.cell? ⟨gb101, 3, none⟩ = some (.bool a0_3) := (blk_cell BK101.out 3).trans rfl
                have hcz27_4 : wc.cell? ⟨gb101, 4, none⟩ = some (.int .i64 a0_4) := (blk_cell BK101.out 4).trans rfl
                have hcz27_5 : wc.cell? ⟨gb101, 5, none⟩ = some (.string a0_5) := (blk_cell BK101.out 5).trans rfl
                have hfz27_0 := blk_frozen BK101.out 0
                have hfz27_1 := blk_frozen BK101.out 1
                have hfz27_2 := blk_frozen BK101.out 2
                have hfz27_3 := blk_frozen BK101.out 3
                have hfz27_4 := blk_frozen BK101.out 4
                have hfz27_5 := blk_frozen BK101.out 5
                go_wp2
                go_meet
                case rel => exact ⟨_, (decide ((a0_5.size : Int) > 400)), (by first | rfl | (simp; done) | (simp [*]; done)), H', ⟨by have := HJ1.out; have := HJ19.out; first | omega | exact Nat.le_refl _⟩, ⟨by (with_reducible repeat (first | refine blk_drewN ?_ _ | refine blk_drew ?_ | refine blk_alloc ?_ _)); exact BK101.out⟩, ⟨by repeat (first | (with_reducible first | exact HB.out | apply below_alloc | apply pw_below_drewN | apply below_drew1 | refine below_set ?_ GE101.out) | exact HB.out)⟩⟩
              · rw [if_neg c26] at H
                have c26b0 : (a0_0 == 1) = false := beq_eq_false_iff_ne.mpr c26
                have c26b1 : (a0_0 != 1) = true := bne_iff_ne.mpr c26
                (first | rw [c26b0] | (simp only [i64_w, i32_w]; rw [c26b0]) | skip)
                have H' := Aside0.mk H
                clear H
                have hcz28_0 : wc.cell? ⟨gb101, 0, none⟩ = some (.int .i64 a0_0) := (blk_cell BK101.out 0).trans rfl
                have hcz28_1 : wc.cell? ⟨gb101, 1, none⟩ = some (.int .i64 a0_1) := (blk_cell BK101.out 1).trans rfl
                have hcz28_2 : wc.cell? ⟨gb101, 2, none⟩ = some (.int .i64 a0_2) := (blk_cell BK101.out 2).trans rfl
                have hcz28_3 : wc.cell? ⟨gb101, 3, none⟩ = some (.bool a0_3) := (blk_cell BK101.out 3).trans rfl
                have hcz28_4 : wc.cell? ⟨gb101, 4, none⟩ = some (.int .i64 a0_4) := (blk_cell BK101.out 4).trans rfl
                have hcz28_5 : wc.cell? ⟨gb101, 5, none⟩ = some (.string a0_5) := (blk_cell BK101.out 5).trans rfl
                have hfz28_0 := blk_frozen BK101.out 0
                have hfz28_1 := blk_frozen BK101.out 1
                have hfz28_2 := blk_frozen BK101.out 2
                have hfz28_3 := blk_frozen BK101.out 3
                have hfz28_4 := blk_frozen BK101.out 4
                have hfz28_5 := blk_frozen BK101.out 5
                go_wp2
                go_meet
                case rel => exact ⟨_, (false), (by first | rfl | (simp; done) | (simp [*]; done)), H', ⟨by have := HJ1.out; have := HJ19.out; first | omega | exact Nat.le_refl _⟩, ⟨by (with_reducible repeat (first | refine blk_drewN ?_ _ | refine blk_drew ?_ | refine blk_alloc ?_ _)); exact BK101.out⟩, ⟨by repeat (first | (with_reducible first | exact HB.out | apply below_alloc | apply pw_below_drewN | apply below_drew1 | refine below_set ?_ GE101.out) | exact HB.out)⟩⟩
            case rest =>
              clear HC25
              try clear c1
              try clear c2
              try clear p2
              try clear c5
              try clear c5b0
              try clear c5b1
              try clear c7
              try clear c11
              try clear c11b0
              try clear c11b1
              try clear c13
              try clear c16
              try clear c16b0
              try clear c16b1
              try clear c17
              try clear c17b0
              try clear c17b1
              try clear c21
              try clear c24
              try clear c26
              try clear c26b0
              try clear c26b1
              try clear hcz10_0
              try clear hcz10_1
              try clear hcz10_2
              try clear hcz10_3
              try clear hcz10_4
              try clear hcz10_5
              try clear hcz14_0
              try clear hcz14_1
              try clear hcz14_2
              try clear hcz14_3
              try clear hcz14_4
              try clear hcz14_5
              try clear hcz15_0
              try clear hcz15_1
              try clear hcz15_2
              try clear hcz15_3
              try clear hcz15_4
              try clear hcz15_5
              try clear hcz18_0
              try clear hcz18_1
              try clear hcz18_2
              try clear hcz18_3
              try clear hcz18_4
              try clear hcz18_5
              try clear hcz19_0
              try clear hcz19_1
              try clear hcz19_2
              try clear hcz19_3
              try clear hcz19_4
              try clear hcz19_5
              try clear hcz23_0
              try clear hcz23_1
              try clear hcz23_2
              try clear hcz23_3
              try clear hcz23_4
              try clear hcz23_5
              try clear hcz27_0
              try clear hcz27_1
              try clear hcz27_2
              try clear hcz27_3
              try clear hcz27_4
              try clear hcz27_5
              try clear hcz28_0
              try clear hcz28_1
              try clear hcz28_2
              try clear hcz28_3
              try clear hcz28_4
              try clear hcz28_5
              try clear hcz4_0
              try clear hcz4_1
              try clear hcz4_2
              try clear hcz4_3
              try clear hcz4_4
              try clear hcz4_5
              try clear hcz9_0
              try clear hcz9_1
              try clear hcz9_2
              try clear hcz9_3
              try clear hcz9_4
              try clear hcz9_5
              try clear hfz10_0
              try clear hfz10_1
              try clear hfz10_2
              try clear hfz10_3
              try clear hfz10_4
              try clear hfz10_5
              try clear hfz14_0
              try clear hfz14_1
              try clear hfz14_2
              try clear hfz14_3
              try clear hfz14_4
              try clear hfz14_5
              try clear hfz15_0
              try clear hfz15_1
              try clear hfz15_2
              try clear hfz15_3
              try clear hfz15_4
              try clear hfz15_5
              try clear hfz18_0
              try clear hfz18_1
              try clear hfz18_2
              try clear hfz18_3
              try clear hfz18_4
              try clear hfz18_5
              try clear hfz19_0
              try clear hfz19_1
              try clear hfz19_2
              try clear hfz19_3
              try clear hfz19_4
              try clear hfz19_5
              try clear hfz23_0
              try clear hfz23_1
              try clear hfz23_2
              try clear hfz23_3
              try clear hfz23_4
              try clear hfz23_5
              try clear hfz27_0
              try clear hfz27_1
              try clear hfz27_2
              try clear hfz27_3
              try clear hfz27_4
              try clear hfz27_5
              try clear hfz28_0
              try clear hfz28_1
              try clear hfz28_2
              try clear hfz28_3
              try clear hfz28_4
              try clear hfz28_5
              try clear hfz4_0
              try clear hfz4_1
              try clear hfz4_2
              try clear hfz4_3
              try clear hfz4_4
              try clear hfz4_5
              try clear hfz9_0
              try clear hfz9_1
              try clear hfz9_2
              try clear hfz9_3
              try clear hfz9_4
              try clear hfz9_5
              try clear p2
              obtain ⟨kq, x45_24, rfl, HA, HJ24, BK101, HB⟩ := hcut
              cases kq with
              | zero => exact absurd HA.out (by simp [segment_Check.j2])
              | succ kj24 =>
                have H := HA.out
                clear HA
                simp only [segment_Check.j2] at H
                by_cases c29 : x45_24 = true
                · subst c29
                  have H1 : (some 7) = some r := by rw [if_pos rfl] at H; exact H
                  clear H
                  have H := H1
                  clear H1
                  obtain rfl := Option.some.inj H
                  go_wp2
                  go_ret
                  exact ⟨by first | rfl | (simp [errW_none, errW_some] <;> rfl) | (simp [*, errW_none, errW_some] <;> rfl), by repeat (first | (with_reducible first | exact HB.out | apply below_alloc | apply pw_below_drewN | apply below_drew1 | refine below_set ?_ GE101.out) | exact HB.out)⟩
                · replace c29 := Bool.eq_false_iff.mpr c29
                  subst c29
                  have H1 : (if a0_0 = 1 then (some 0) else (if a0_3 = true then (some 10) else (if a0_5.toList = ([] : List UInt8) then (some 0) else (some 10)))) = some r := by rw [if_neg (show ¬ (false = true) by decide)] at H; exact H
                  clear H
                  have H := H1
                  clear H1
                  by_cases c30 : a0_0 = 1
                  · rw [if_pos c30] at H
                    have c30b0 : (a0_0 == 1) = true := beq_iff_eq.mpr c30
                    have c30b1 : (a0_0 != 1) = false := bne_eq_false_iff_eq.mpr c30
                    clear c30
                    obtain rfl := Option.some.inj H
                    have hcz31_0 : wc.cell? ⟨gb101, 0, none⟩ = some (.int .i64 a0_0) := (blk_cell BK101.out 0).trans rfl
                    have hcz31_1 : wc.cell? ⟨gb101, 1, none⟩ = some (.int .i64 a0_1) := (blk_cell BK101.out 1).trans rfl
                    have hcz31_2 : wc.cell? ⟨gb101, 2, none⟩ = some (.int .i64 a0_2) := (blk_cell BK101.out 2).trans rfl
                    have hcz31_3 : wc.cell? ⟨gb101, 3, none⟩ = some (.bool a0_3) := (blk_cell BK101.out 3).trans rfl
                    have hcz31_4 : wc.cell? ⟨gb101, 4, none⟩ = some (.int .i64 a0_4) := (blk_cell BK101.out 4).trans rfl
                    have hcz31_5 : wc.cell? ⟨gb101, 5, none⟩ = some (.string a0_5) := (blk_cell BK101.out 5).trans rfl
                    have hfz31_0 := blk_frozen BK101.out 0
                    have hfz31_1 := blk_frozen BK101.out 1
                    have hfz31_2 := blk_frozen BK101.out 2
                    have hfz31_3 := blk_frozen BK101.out 3
                    have hfz31_4 := blk_frozen BK101.out 4
                    have hfz31_5 := blk_frozen BK101.out 5
                    go_wp2
                    go_ret
                    exact ⟨by first | rfl | (simp [errW_none, errW_some] <;> rfl) | (simp [*, errW_none, errW_some] <;> rfl), by repeat (first | (with_reducible first | exact HB.out | apply below_alloc | apply pw_below_drewN | apply below_drew1 | refine below_set ?_ GE101.out) | exact HB.out)⟩
                  · rw [if_neg c30] at H
                    have c30b0 : (a0_0 == 1) = false := beq_eq_false_iff_ne.mpr c30
                    have c30b1 : (a0_0 != 1) = true := bne_iff_ne.mpr c30
                    by_cases c32 : a0_3 = true
                    · subst c32
                      have H1 : (some 10) = some r := by rw [if_pos rfl] at H; exact H
                      clear H
                      have H := H1
                      clear H1
                      obtain rfl := Option.some.inj H
                      have hcz33_0 : wc.cell? ⟨gb101, 0, none⟩ = some (.int .i64 a0_0) := (blk_cell BK101.out 0).trans rfl
                      have hcz33_1 : wc.cell? ⟨gb101, 1, none⟩ = some (.int .i64 a0_1) := (blk_cell BK101.out 1).trans rfl
                      have hcz33_2 : wc.cell? ⟨gb101, 2, none⟩ = some (.int .i64 a0_2) := (blk_cell BK101.out 2).trans rfl
                      have hcz33_3 : wc.cell? ⟨gb101, 3, none⟩ = some (.bool true) := (blk_cell BK101.out 3).trans rfl
                      have hcz33_4 : wc.cell? ⟨gb101, 4, none⟩ = some (.int .i64 a0_4) := (blk_cell BK101.out 4).trans rfl
                      have hcz33_5 : wc.cell? ⟨gb101, 5, none⟩ = some (.string a0_5) := (blk_cell BK101.out 5).trans rfl
                      have hfz33_0 := blk_frozen BK101.out 0
                      have hfz33_1 := blk_frozen BK101.out 1
                      have hfz33_2 := blk_frozen BK101.out 2
                      have hfz33_3 := blk_frozen BK101.out 3
                      have hfz33_4 := blk_frozen BK101.out 4
                      have hfz33_5 := blk_frozen BK101.out 5
                      go_wp2
                      go_ret
                      exact ⟨by first | rfl | (simp [errW_none, errW_some] <;> rfl) | (simp [*, errW_none, errW_some] <;> rfl), by repeat (first | (with_reducible first | exact HB.out | apply below_alloc | apply pw_below_drewN | apply below_drew1 | refine below_set ?_ GE101.out) | exact HB.out)⟩
                    · replace c32 := Bool.eq_false_iff.mpr c32
                      subst c32
                      have H1 : (if a0_5.toList = ([] : List UInt8) then (some 0) else (some 10)) = some r := by rw [if_neg (show ¬ (false = true) by decide)] at H; exact H
                      clear H
                      have H := H1
                      clear H1
                      by_cases c34 : a0_5.toList = ([] : List UInt8)
                      · rw [if_pos c34] at H
                        have c34b0 : (a0_5.toList == ([] : List UInt8)) = true := beq_iff_eq.mpr c34
                        have c34b1 : (a0_5.toList != ([] : List UInt8)) = false := bne_eq_false_iff_eq.mpr c34
                        clear c34
                        obtain rfl := Option.some.inj H
                        have hcz35_0 : wc.cell? ⟨gb101, 0, none⟩ = some (.int .i64 a0_0) := (blk_cell BK101.out 0).trans rfl
                        have hcz35_1 : wc.cell? ⟨gb101, 1, none⟩ = some (.int .i64 a0_1) := (blk_cell BK101.out 1).trans rfl
                        have hcz35_2 : wc.cell? ⟨gb101, 2, none⟩ = some (.int .i64 a0_2) := (blk_cell BK101.out 2).trans rfl
                        have hcz35_3 : wc.cell? ⟨gb101, 3, none⟩ = some (.bool false) := (blk_cell BK101.out 3).trans rfl
                        have hcz35_4 : wc.cell? ⟨gb101, 4, none⟩ = some (.int .i64 a0_4) := (blk_cell BK101.out 4).trans rfl
                        have hcz35_5 : wc.cell? ⟨gb101, 5, none⟩ = some (.string a0_5) := (blk_cell BK101.out 5).trans rfl
                        have hfz35_0 := blk_frozen BK101.out 0
                        have hfz35_1 := blk_frozen BK101.out 1
                        have hfz35_2 := blk_frozen BK101.out 2
                        have hfz35_3 := blk_frozen BK101.out 3
                        have hfz35_4 := blk_frozen BK101.out 4
                        have hfz35_5 := blk_frozen BK101.out 5
                        go_wp2
                        go_ret
                        exact ⟨by first | rfl | (simp [errW_none, errW_some] <;> rfl) | (simp [*, errW_none, errW_some] <;> rfl), by repeat (first | (with_reducible first | exact HB.out | apply below_alloc | apply pw_below_drewN | apply below_drew1 | refine below_set ?_ GE101.out) | exact HB.out)⟩
                      · rw [if_neg c34] at H
                        have c34b0 : (a0_5.toList == ([] : List UInt8)) = false := beq_eq_false_iff_ne.mpr c34
                        have c34b1 : (a0_5.toList != ([] : List UInt8)) = true := bne_iff_ne.mpr c34
                        obtain rfl := Option.some.inj H
                        have hcz36_0 : wc.cell? ⟨gb101, 0, none⟩ = some (.int .i64 a0_0) := (blk_cell BK101.out 0).trans rfl
                        have hcz36_1 : wc.cell? ⟨gb101, 1, none⟩ = some (.int .i64 a0_1) := (blk_cell BK101.out 1).trans rfl
                        have hcz36_2 : wc.cell? ⟨gb101, 2, none⟩ = some (.int .i64 a0_2) := (blk_cell BK101.out 2).trans rfl
                        have hcz36_3 : wc.cell? ⟨gb101, 3, none⟩ = some (.bool false) := (blk_cell BK101.out 3).trans rfl
                        have hcz36_4 : wc.cell? ⟨gb101, 4, none⟩ = some (.int .i64 a0_4) := (blk_cell BK101.out 4).trans rfl
                        have hcz36_5 : wc.cell? ⟨gb101, 5, none⟩ = some (.string a0_5) := (blk_cell BK101.out 5).trans rfl
                        have hfz36_0 := blk_frozen BK101.out 0
                        have hfz36_1 := blk_frozen BK101.out 1
                        have hfz36_2 := blk_frozen BK101.out 2
                        have hfz36_3 := blk_frozen BK101.out 3
                        have hfz36_4 := blk_frozen BK101.out 4
                        have hfz36_5 := blk_frozen BK101.out 5
                        go_wp2
                        go_ret
                        exact ⟨by first | rfl | (simp [errW_none, errW_some] <;> rfl) | (simp [*, errW_none, errW_some] <;> rfl), by repeat (first | (with_reducible first | exact HB.out | apply below_alloc | apply pw_below_drewN | apply below_drew1 | refine below_set ?_ GE101.out) | exact HB.out)⟩
end Go.Proofs.YtbgabhknmpbgiaaDoor.S
end
section
namespace Go.Proofs.YtbgabhknmpbgiaaDoor.S
open Go.RowKit Go.Proofs.YtbgabhknmpbgiaaDoorW.PrintWords Go.Proofs.YtbgabhknmpbgiaaDoorW.PrintLast Go.Proofs.YtbgabhknmpbgiaaDoorW.PrintMore
attribute [local go_sem] max2_int min2_int max_two min_two max_three min_three max_four min_four
set_option linter.unusedVariables false
set_option linter.unusedSimpArgs false
end Go.Proofs.YtbgabhknmpbgiaaDoor.S
end
section
namespace Go.Proofs.YtbgabhknmpbgiaaDoor.Pure
open Go.RowKit Go.Proofs.YtbgabhknmpbgiaaDoor.S Go.Proofs.YtbgabhknmpbgiaaDoorW.PrintWords Go.Proofs.YtbgabhknmpbgiaaDoorW.PrintLast Go.Proofs.YtbgabhknmpbgiaaDoorW.PrintMore
set_option linter.unusedVariables false
theorem seg_in (a lo hi : Int) : segment_in.f a lo hi = some (decide (lo ≤ a ∧ a ≤ hi)) := by
  unfold segment_in.f
  by_cases h : a ≥ lo
  · rw [if_pos h]
    congr 1
    by_cases h2 : a ≤ hi
    · rw [decide_eq_true h2, decide_eq_true ⟨h, h2⟩]
    · rw [decide_eq_false h2, decide_eq_false (fun q => h2 q.2)]
  · rw [if_neg h, decide_eq_false (fun q => h q.1)]
end Go.Proofs.YtbgabhknmpbgiaaDoor.Pure
end
section
namespace Go.Proofs.YtbgabhknmpbgiaaDoor.Pure
open Go.RowKit Go.Proofs.YtbgabhknmpbgiaaDoor.S Go.Proofs.YtbgabhknmpbgiaaDoorW.PrintWords Go.Proofs.YtbgabhknmpbgiaaDoorW.PrintLast Go.Proofs.YtbgabhknmpbgiaaDoorW.PrintMore
set_option linter.unusedVariables false
def pieces (s : ByteArray) (n : Nat) : Nat → List ByteArray
  | 0 => []
  | j + 1 => pieces s n j ++ [s.extract (j * n) (min (j * n + n) s.size)]
theorem pieces_len (s : ByteArray) (n j : Nat) : (pieces s n j).length = j := by
  induction j with
  | zero => rfl
  | succ j ih => simp [pieces, ih]
def pcs (size n : Nat) : Nat := if size ≤ n then 1 else (size + n - 1) / n
theorem pcs_ok {size n : Nat} (hn : 1 ≤ n) : 1 ≤ pcs size n ∧ size ≤ pcs size n * n ∧ (pcs size n = 1 ∨ (pcs size n - 1) * n < size) := by
  unfold pcs
  split
  · rename_i h
    exact ⟨Nat.le_refl _, by omega, Or.inl rfl⟩
  · rename_i h
    have h1 := Nat.div_add_mod (size + n - 1) n
    have h2 := Nat.mod_lt (size + n - 1) (show 0 < n by omega)
    rw [Nat.mul_comm] at h1
    have h3 : 1 ≤ (size + n - 1) / n := by
      rw [Nat.le_div_iff_mul_le (by omega)]
      omega
    have h4 : ((size + n - 1) / n - 1) * n + n = (size + n - 1) / n * n := by
      rw [← Nat.succ_mul, Nat.succ_eq_add_one, Nat.sub_add_cancel h3]
    exact ⟨h3, by omega, Or.inr (by omega)⟩
theorem pcs_le {size n m : Nat} (hn : 1 ≤ n) (hm : 1 ≤ m) (h : size ≤ n * m) : pcs size n ≤ m := by
  unfold pcs
  split
  · exact hm
  · rw [Nat.div_le_iff_le_mul (by omega), Nat.mul_comm m n]
    omega
def segsOf (s : ByteArray) (n : Nat) : List ByteArray := pieces s n (pcs s.size n)
theorem mulStep {a b n : Nat} (h : a ≤ b) : a * n ≤ b * n := Nat.mul_le_mul_right n h
theorem splitP_loop (s : ByteArray) (n : Nat) (hn : 1 ≤ n) (hn2 : n ≤ 400) (hK : pcs s.size n ≤ 64) : ∀ (d j F : Nat), j + d + 1 = pcs s.size n →
    segment_Split.l0 (F + d + 1) (s.extract (j * n) s.size) (n : Int) (pieces s n j) = some (segsOf s n, 0) := by
  obtain ⟨h1, h2, h3⟩ := pcs_ok (size := s.size) hn
  intro d
  induction d with
  | zero =>
    intro j F hj
    have hle : s.size ≤ (j + 1) * n := by rw [show j + 1 = pcs s.size n by omega]; exact h2
    rw [Nat.succ_mul] at hle
    have hjn : j * n ≤ s.size := by
      rcases h3 with h3 | h3
      · have : j = 0 := by omega
        subst this
        omega
      · have := mulStep (n := n) (show j ≤ pcs s.size n - 1 by omega)
        omega
    have hsz : (s.extract (j * n) s.size).size = s.size - j * n := ext_size s _ _ hjn (Nat.le_refl _)
    rw [show F + 0 + 1 = F + 1 from rfl]
    unfold segment_Split.l0
    rw [if_neg (by omega), if_pos (by rw [pieces_len]; omega)]
    unfold segsOf
    rw [← hj]
    show _ = some (pieces s n j ++ [s.extract (j * n) (min (j * n + n) s.size)], 0)
    rw [show min (j * n + n) s.size = s.size by omega]
  | succ d ih =>
    intro j F hj
    have hlt : (j + 1) * n < s.size := by
      rcases h3 with h3 | h3
      · omega
      · have := mulStep (n := n) (show j + 1 ≤ pcs s.size n - 1 by omega)
        omega
    have hm := Nat.succ_mul j n
    rw [Nat.succ_eq_add_one] at hm
    have hsz : (s.extract (j * n) s.size).size = s.size - j * n := ext_size s _ _ (by omega) (Nat.le_refl _)
    rw [show F + (d + 1) + 1 = (F + d + 1) + 1 by omega]
    unfold segment_Split.l0
    rw [if_pos (by omega), if_pos (by omega), if_pos (by omega), if_pos (by rw [pieces_len]; omega)]
    have e1 : (s.extract (j * n) s.size).extract ((n : Int)).toNat (s.extract (j * n) s.size).size = s.extract ((j + 1) * n) s.size := by
      rw [hsz, Int.toNat_natCast, ByteArray.extract_extract, hm, show min (j * n + (s.size - j * n)) s.size = s.size by omega]
    have e2 : (s.extract (j * n) s.size).extract 0 ((n : Int)).toNat = s.extract (j * n) (min (j * n + n) s.size) := by
      rw [Int.toNat_natCast, ByteArray.extract_extract, Nat.add_zero]
    rw [e1, e2]
    exact ih (j + 1) F (by omega)
theorem splitP (s : ByteArray) (n : Nat) (F : Nat) (hn : 1 ≤ n) (hn2 : n ≤ 400) (hs : s.size ≤ n * 64) : segment_Split.f (F + 64) s (n : Int) = some (segsOf s n, 0) := by
  have hK := pcs_le hn (by decide) hs
  have h1 := (pcs_ok (size := s.size) hn).1
  unfold segment_Split.f
  rw [seg_in, Option.bind_some, decide_eq_true (by omega), if_pos rfl, if_neg (by unfold wrap64; omega)]
  have := splitP_loop s n hn hn2 hK (pcs s.size n - 1) 0 (F + 64 - pcs s.size n) (by omega)
  rw [Nat.zero_mul, ByteArray.extract_zero_size, show F + 64 - pcs s.size n + (pcs s.size n - 1) + 1 = F + 64 by omega] at this
  exact this
theorem splitR_loop (s : ByteArray) (n : Nat) (hz : s.size ≤ 100000) (hn : 1 ≤ n) (hn2 : n ≤ 400) (hK : pcs s.size n ≤ 64) : ∀ (d j F : Nat), j + d = pcs s.size n → 1 ≤ j →
    plenumref49_Split.l0 (F + d + 1) s (n : Int) (pieces s n j) ((j * n : Nat) : Int) = some (segsOf s n, 0) := by
  obtain ⟨h1, h2, h3⟩ := pcs_ok (size := s.size) hn
  intro d
  induction d with
  | zero =>
    intro j F hj h0
    have hle : s.size ≤ j * n := by rw [show j = pcs s.size n by omega]; exact h2
    rw [show F + 0 + 1 = F + 1 from rfl]
    unfold plenumref49_Split.l0
    rw [if_neg (by omega), show j = pcs s.size n by omega]
    rfl
  | succ d ih =>
    intro j F hj h0
    have hlt : j * n < s.size := by
      rcases h3 with h3 | h3
      · omega
      · have := mulStep (n := n) (show j ≤ pcs s.size n - 1 by omega)
        omega
    have hm := Nat.succ_mul j n
    rw [Nat.succ_eq_add_one] at hm
    rw [show F + (d + 1) + 1 = (F + d + 1) + 1 by omega]
    unfold plenumref49_Split.l0
    have w1 : wrap64 (((j * n : Nat) : Int) + (n : Int)) = (((j + 1) * n : Nat) : Int) := by rw [hm]; unfold wrap64; omega
    have hmn : mn (((j + 1) * n : Nat) : Int) (s.size : Int) = ((min (j * n + n) s.size : Nat) : Int) := by unfold mn; rw [hm]; split <;> omega
    rw [w1, hmn, if_pos (by omega), if_pos (by omega), if_pos (by omega), if_pos (by omega), if_pos (by rw [pieces_len]; omega), Int.toNat_natCast, Int.toNat_natCast]
    exact ih (j + 1) F (by omega) (by omega)
theorem splitR (s : ByteArray) (n : Nat) (F : Nat) (hz : s.size ≤ 100000) (hn : 1 ≤ n) (hn2 : n ≤ 400) (hs : s.size ≤ n * 64) : plenumref49_Split.f (F + 66) s (n : Int) = some (segsOf s n, 0) := by
  have hK := pcs_le hn (by decide) hs
  have h1 := (pcs_ok (size := s.size) hn).1
  unfold plenumref49_Split.f
  rw [if_neg (by omega), decide_eq_false (by omega)]
  have hmn : mn (n : Int) (s.size : Int) = ((min n s.size : Nat) : Int) := by unfold mn; split <;> omega
  rw [plenumref49_Split.j0, if_neg Bool.false_ne_true, if_neg (by unfold wrap64; omega), hmn, if_pos (by omega), if_pos (by omega), Int.toNat_natCast]
  have := splitR_loop s n hz hn hn2 hK (pcs s.size n - 1) 1 (F + 65 - pcs s.size n) (by omega) (Nat.le_refl _)
  rw [show F + 65 - pcs s.size n + (pcs s.size n - 1) + 1 = F + 65 by omega, Nat.one_mul] at this
  have e : pieces s n 1 = [s.extract 0 (min n s.size)] := by
    unfold pieces pieces
    rw [Nat.zero_mul, Nat.zero_add]
    rfl
  rw [e] at this
  exact this
theorem splitP_bad (s : ByteArray) (z : Int) (F : Nat) (h : z < 1 ∨ 400 < z) : segment_Split.f F s z = some ([], 1) ∧ plenumref49_Split.f (F + 1) s z = some ([], 1) := by
  refine ⟨?_, ?_⟩
  · unfold segment_Split.f
    rw [seg_in, Option.bind_some, decide_eq_false (by omega), if_neg Bool.false_ne_true]
  · unfold plenumref49_Split.f
    by_cases c : z < 1
    · rw [if_pos c, plenumref49_Split.j0, if_pos rfl]
    · rw [if_neg c, decide_eq_true (by omega), plenumref49_Split.j0, if_pos rfl]
theorem splitP_long (s : ByteArray) (n : Nat) (F : Nat) (hn : 1 ≤ n) (hn2 : n ≤ 400) (h : n * 64 < s.size) : segment_Split.f F s (n : Int) = some ([], 7) ∧ plenumref49_Split.f (F + 1) s (n : Int) = some ([], 7) := by
  refine ⟨?_, ?_⟩
  · unfold segment_Split.f
    rw [seg_in, Option.bind_some, decide_eq_true (by omega), if_pos rfl, if_pos (by unfold wrap64; omega)]
  · unfold plenumref49_Split.f
    rw [if_neg (by omega), decide_eq_false (by omega), plenumref49_Split.j0, if_neg Bool.false_ne_true, if_pos (by unfold wrap64; omega)]
theorem split_both (s : ByteArray) (z : Int) (F : Nat) (hz : s.size ≤ 100000) : ∃ segs e, segment_Split.f (F + 66) s z = some (segs, e) ∧ plenumref49_Split.f (F + 66) s z = some (segs, e) ∧ segs.length ≤ 64 ∧ (e = 0 → 1 ≤ z ∧ z ≤ 400 ∧ s.size ≤ z.toNat * 64 ∧ segs = segsOf s z.toNat) ∧ (e ≠ 0 → segs = []) := by
  by_cases c : z < 1 ∨ 400 < z
  · have h1 := (splitP_bad s z (F + 66) c).1
    have h2 := (splitP_bad s z (F + 65) c).2
    exact ⟨[], 1, h1, h2, by decide, fun h => absurd h (by decide), fun _ => rfl⟩
  · obtain ⟨n, rfl⟩ : ∃ n : Nat, z = (n : Int) := ⟨z.toNat, by omega⟩
    by_cases l : n * 64 < s.size
    · have h1 := (splitP_long s n (F + 66) (by omega) (by omega) l).1
      have h2 := (splitP_long s n (F + 65) (by omega) (by omega) l).2
      exact ⟨[], 7, h1, h2, by decide, fun h => absurd h (by decide), fun _ => rfl⟩
    · refine ⟨segsOf s n, 0, splitP s n (F + 2) (by omega) (by omega) (by omega), splitR s n F hz (by omega) (by omega) (by omega), ?_, fun _ => ⟨by omega, by omega, by rw [Int.toNat_natCast]; omega, by rw [Int.toNat_natCast]⟩, fun h => absurd rfl h⟩
      unfold segsOf
      rw [pieces_len]
      exact pcs_le (by omega) (by decide) (by omega)
end Go.Proofs.YtbgabhknmpbgiaaDoor.Pure
end
section
namespace Go.Proofs.YtbgabhknmpbgiaaDoor.S
open Go.RowKit Go.Proofs.YtbgabhknmpbgiaaDoorW.PrintWords Go.Proofs.YtbgabhknmpbgiaaDoorW.PrintLast Go.Proofs.YtbgabhknmpbgiaaDoorW.PrintMore
attribute [local go_sem] max2_int min2_int max_two min_two max_three min_three max_four min_four
set_option linter.unusedVariables false
set_option linter.unusedSimpArgs false
theorem eqA27 (d : Nat) (w : World) (x0 y0 : Int) (x1 y1 : Int) (x2 y2 : Int) (x3 y3 : Bool) (x4 y4 : Int) (x5 y5 : ByteArray) :
    (Op.equalIn (d + 2) 27 (.agg #[.int .i64 x0, .int .i64 x1, .int .i64 x2, .bool x3, .int .i64 x4, .string x5]) (.agg #[.int .i64 y0, .int .i64 y1, .int .i64 y2, .bool y3, .int .i64 y4, .string y5])).run Tryd.prog w = .ok (x0 == y0 && (x1 == y1 && (x2 == y2 && (x3 == y3 && (x4 == y4 && (x5.toList == y5.toList)))))) w := by
  refine eqA_of Tryd.underlying27 (by kernel_rfl) ?_
  refine eqf_cons (by rfl) (by go_simp; rfl) (by go_simp; rfl) (by go_simp) ?_
  refine eqf_cons (by rfl) (by go_simp; rfl) (by go_simp; rfl) (by go_simp) ?_
  refine eqf_cons (by rfl) (by go_simp; rfl) (by go_simp; rfl) (by go_simp) ?_
  refine eqf_cons (by rfl) (by go_simp; rfl) (by go_simp; rfl) (by go_simp) ?_
  refine eqf_cons (by rfl) (by go_simp; rfl) (by go_simp; rfl) (by go_simp) ?_
  exact eqf_last (by rfl) (by go_simp; rfl) (by go_simp; rfl) (by go_simp)
end Go.Proofs.YtbgabhknmpbgiaaDoor.S
end
section
namespace Go.Proofs.YtbgabhknmpbgiaaDoor.S
open Go.RowKit Go.Proofs.YtbgabhknmpbgiaaDoorW.PrintWords Go.Proofs.YtbgabhknmpbgiaaDoorW.PrintLast Go.Proofs.YtbgabhknmpbgiaaDoorW.PrintMore
attribute [local go_sem] max2_int min2_int max_two min_two max_three min_three max_four min_four
set_option linter.unusedVariables false
set_option linter.unusedSimpArgs false
def plenumlaw49_part.f (a0_0 : Int) (a0_1 : Int) (a0_2 : Int) (a0_3 : Bool) (a0_4 : Int) (a0_5 : ByteArray) : Option (Int × Int × Int × Bool × Int × ByteArray) := some (a0_0, a0_1, a0_2, a0_3, a0_4, a0_5)
set_option maxHeartbeats 8000000 in
set_option maxRecDepth 100000 in
theorem plenumlaw49_part.calls (a0_0 : Int) (a0_1 : Int) (a0_2 : Int) (a0_3 : Bool) (a0_4 : Int) (a0_5 : ByteArray) (r1 : Int) (r2 : Int) (r3 : Int) (r4 : Bool) (r5 : Int) (r6 : ByteArray) (w : World) (hG : Glob w) (h : plenumlaw49_part.f a0_0 a0_1 a0_2 a0_3 a0_4 a0_5 = some (r1, r2, r3, r4, r5, r6)) :
    Calls Tryd.prog 12 #[.agg #[.int .i64 a0_0, .int .i64 a0_1, .int .i64 a0_2, .bool a0_3, .int .i64 a0_4, .string a0_5]] w fun e w' => e = .returned (.agg #[.int .i64 r1, .int .i64 r2, .int .i64 r3, .bool r4, .int .i64 r5, .string r6]) ∧ Below w.heap.size w w' := by
  have hu23 := Tryd.underlying23
  have hu27 := Tryd.underlying27
  have HG := Aside0.mk hG
  clear hG
  have HB := Aside0.mk (Below.refl w.heap.size w)
  have H : (some (a0_0, a0_1, a0_2, a0_3, a0_4, a0_5)) = some (r1, r2, r3, r4, r5, r6) := h
  clear h
  simp only [Option.some.injEq, Prod.mk.injEq] at H
  obtain ⟨rfl, rfl, rfl, rfl, rfl, rfl⟩ := H
  go_enter Tryd.func12, Tryd.ntmps12
  go_wp2_with (first | ((with_reducible refine gate_dst (N := 1) rfl ?_); refine box_event ?hg (N := 1) ?hd (cs := #[.int .i64 a0_0, .int .i64 a0_1, .int .i64 a0_2, .bool a0_3, .int .i64 a0_4, .string a0_5]) (t := 23) ?hr ?_; (case hd => rfl); (case hg => rfl); (case hr => first | (go_simp; done) | (go_simp; rfl)); intro gb174 hg w2 hbox hb; have n0_ := Aside0.mk (below_step (by repeat (first | (with_reducible first | exact HB.out | apply below_alloc | apply pw_below_drewN | apply below_drew1) | exact HB.out)) hb); have n1_ := Aside0.mk (hbox); have n2_ := Aside0.mk ((by rw [hg]; exact (below_size (by repeat (first | (with_reducible first | exact HB.out | apply below_alloc | apply pw_below_drewN | apply below_drew1) | exact HB.out))) : w.heap.size ≤ gb174)); have n3_ := Aside0.mk ((by rw [hg]; exact (below_size (by repeat (first | (with_reducible first | exact HB.out | apply below_alloc | apply pw_below_drewN | apply below_drew1) | exact HB.out))) : w.heap.size ≤ gb174)); clear HB; have HB := n0_; have BK174 := n1_; have GW174 := n2_; have GE174 := n3_; clear n0_ n1_ n2_ n3_; clear hb hbox hg) | ((with_reducible refine gate_dst (N := 2) rfl ?_); refine box_event ?hg (N := 2) ?hd (cs := #[.int .i64 0, .int .i64 0, .int .i64 0, .bool false, .int .i64 0, .string (⟨#[]⟩ : ByteArray)]) (t := 27) ?hr ?_; (case hd => rfl); (case hg => rfl); (case hr => first | (go_simp; done) | (go_simp; rfl)); intro gb175 hg w3 hbox hb; have n0_ := Aside0.mk (blk_below (g := gb174) (o := .cells #[.int .i64 a0_0, .int .i64 a0_1, .int .i64 a0_2, .bool a0_3, .int .i64 a0_4, .string a0_5] 23 (0, 0)) (by (with_reducible repeat (first | refine blk_drewN ?_ _ | refine blk_drew ?_ | refine blk_alloc ?_ _)); exact BK174.out) hb); have n1_ := Aside0.mk (below_step (by repeat (first | (with_reducible first | exact HB.out | apply below_alloc | apply pw_below_drewN | apply below_drew1 | refine below_set ?_ GE174.out) | exact HB.out)) hb); have n2_ := Aside0.mk (hbox); have n3_ := Aside0.mk ((by rw [hg]; exact (below_size (by repeat (first | (with_reducible first | exact HB.out | apply below_alloc | apply pw_below_drewN | apply below_drew1 | refine below_set ?_ GE174.out) | exact HB.out))) : w.heap.size ≤ gb175)); have n4_ := Aside0.mk ((by rw [hg]; exact (below_size (by repeat (first | (with_reducible first | exact HB.out | apply below_alloc | apply pw_below_drewN | apply below_drew1 | refine below_set ?_ GE174.out) | exact HB.out))) : w.heap.size ≤ gb175)); have n5_ := Aside0.mk ((by rw [hg]; exact Nat.ne_of_lt (blk_lt (g := gb174) (o := .cells #[.int .i64 a0_0, .int .i64 a0_1, .int .i64 a0_2, .bool a0_3, .int .i64 a0_4, .string a0_5] 23 (0, 0)) (by (with_reducible repeat (first | refine blk_drewN ?_ _ | refine blk_drew ?_ | refine blk_alloc ?_ _)); exact BK174.out)) : gb174 ≠ gb175)); have n6_ := Aside0.mk ((by rw [hg]; exact Nat.ne_of_gt (blk_lt (g := gb174) (o := .cells #[.int .i64 a0_0, .int .i64 a0_1, .int .i64 a0_2, .bool a0_3, .int .i64 a0_4, .string a0_5] 23 (0, 0)) (by (with_reducible repeat (first | refine blk_drewN ?_ _ | refine blk_drew ?_ | refine blk_alloc ?_ _)); exact BK174.out)) : gb175 ≠ gb174)); clear BK174; clear HB; have BK174 := n0_; have HB := n1_; have BK175 := n2_; have GW175 := n3_; have GE175 := n4_; have NB174_175 := n5_; have NB175_174 := n6_; clear n0_ n1_ n2_ n3_ n4_ n5_ n6_; clear hb hbox hg; have hnb4 := NB174_175.out; have hnc4 := NB175_174.out; have hcz5_0 : w3.cell? ⟨gb174, 0, none⟩ = some (.int .i64 a0_0) := (blk_cell BK174.out 0).trans rfl; have hcz5_1 : w3.cell? ⟨gb174, 1, none⟩ = some (.int .i64 a0_1) := (blk_cell BK174.out 1).trans rfl; have hcz5_2 : w3.cell? ⟨gb174, 2, none⟩ = some (.int .i64 a0_2) := (blk_cell BK174.out 2).trans rfl; have hcz5_3 : w3.cell? ⟨gb174, 3, none⟩ = some (.bool a0_3) := (blk_cell BK174.out 3).trans rfl; have hcz5_4 : w3.cell? ⟨gb174, 4, none⟩ = some (.int .i64 a0_4) := (blk_cell BK174.out 4).trans rfl; have hcz5_5 : w3.cell? ⟨gb174, 5, none⟩ = some (.string a0_5) := (blk_cell BK174.out 5).trans rfl; have hfz5_0 := blk_frozen BK174.out 0; have hfz5_1 := blk_frozen BK174.out 1; have hfz5_2 := blk_frozen BK174.out 2; have hfz5_3 := blk_frozen BK174.out 3; have hfz5_4 := blk_frozen BK174.out 4; have hfz5_5 := blk_frozen BK174.out 5; have hcz6_0 : w3.cell? ⟨gb175, 0, none⟩ = some (.int .i64 0) := (blk_cell BK175.out 0).trans rfl; have hcz6_1 : w3.cell? ⟨gb175, 1, none⟩ = some (.int .i64 0) := (blk_cell BK175.out 1).trans rfl; have hcz6_2 : w3.cell? ⟨gb175, 2, none⟩ = some (.int .i64 0) := (blk_cell BK175.out 2).trans rfl; have hcz6_3 : w3.cell? ⟨gb175, 3, none⟩ = some (.bool false) := (blk_cell BK175.out 3).trans rfl; have hcz6_4 : w3.cell? ⟨gb175, 4, none⟩ = some (.int .i64 0) := (blk_cell BK175.out 4).trans rfl; have hcz6_5 : w3.cell? ⟨gb175, 5, none⟩ = some (.string (⟨#[]⟩ : ByteArray)) := (blk_cell BK175.out 5).trans rfl; have hfz6_0 := blk_frozen BK175.out 0; have hfz6_1 := blk_frozen BK175.out 1; have hfz6_2 := blk_frozen BK175.out 2; have hfz6_3 := blk_frozen BK175.out 3; have hfz6_4 := blk_frozen BK175.out 4; have hfz6_5 := blk_frozen BK175.out 5))
  refine bodyPost_ret (results_cell_row rfl _ _ gb175 27 #[.int .i64 a0_0, .int .i64 a0_1, .int .i64 a0_2, .bool a0_3, .int .i64 a0_4, .string a0_5] (0, 0) _ rfl (by (with_reducible repeat (first | refine blk_drewN ?_ _ | refine blk_drew ?_ | refine blk_alloc ?_ _)); refine blk_put (cs := #[.int .i64 a0_0, .int .i64 a0_1, .int .i64 a0_2, .bool a0_3, .int .i64 a0_4, .string (⟨#[]⟩ : ByteArray)]) ?_ 5 _ rfl; (with_reducible repeat (first | refine blk_drewN ?_ _ | refine blk_drew ?_ | refine blk_alloc ?_ _)); refine blk_put (cs := #[.int .i64 a0_0, .int .i64 a0_1, .int .i64 a0_2, .bool a0_3, .int .i64 0, .string (⟨#[]⟩ : ByteArray)]) ?_ 4 _ rfl; (with_reducible repeat (first | refine blk_drewN ?_ _ | refine blk_drew ?_ | refine blk_alloc ?_ _)); refine blk_put (cs := #[.int .i64 a0_0, .int .i64 a0_1, .int .i64 a0_2, .bool false, .int .i64 0, .string (⟨#[]⟩ : ByteArray)]) ?_ 3 _ rfl; (with_reducible repeat (first | refine blk_drewN ?_ _ | refine blk_drew ?_ | refine blk_alloc ?_ _)); refine blk_put (cs := #[.int .i64 a0_0, .int .i64 a0_1, .int .i64 0, .bool false, .int .i64 0, .string (⟨#[]⟩ : ByteArray)]) ?_ 2 _ rfl; (with_reducible repeat (first | refine blk_drewN ?_ _ | refine blk_drew ?_ | refine blk_alloc ?_ _)); refine blk_put (cs := #[.int .i64 a0_0, .int .i64 0, .int .i64 0, .bool false, .int .i64 0, .string (⟨#[]⟩ : ByteArray)]) ?_ 1 _ rfl; (with_reducible repeat (first | refine blk_drewN ?_ _ | refine blk_drew ?_ | refine blk_alloc ?_ _)); refine blk_put (cs := #[.int .i64 0, .int .i64 0, .int .i64 0, .bool false, .int .i64 0, .string (⟨#[]⟩ : ByteArray)]) ?_ 0 _ rfl; (with_reducible repeat (first | refine blk_drewN ?_ _ | refine blk_drew ?_ | refine blk_alloc ?_ _)); exact BK175.out) Tryd.underlying27 rfl (by kernel_rfl)) rfl ?_
  exact ⟨by first | rfl | (simp [errW_none, errW_some] <;> rfl) | (simp [*, errW_none, errW_some] <;> rfl), by repeat (first | (with_reducible first | exact HB.out | apply below_alloc | apply pw_below_drewN | apply below_drew1 | refine below_set ?_ GE174.out | refine below_set ?_ GE175.out) | exact HB.out)⟩
end Go.Proofs.YtbgabhknmpbgiaaDoor.S
end
section
namespace Go.Proofs.YtbgabhknmpbgiaaDoor.S
open Go.RowKit Go.Proofs.YtbgabhknmpbgiaaDoorW.PrintWords Go.Proofs.YtbgabhknmpbgiaaDoorW.PrintLast Go.Proofs.YtbgabhknmpbgiaaDoorW.PrintMore
attribute [local go_sem] max2_int min2_int max_two min_two max_three min_three max_four min_four
set_option linter.unusedVariables false
set_option linter.unusedSimpArgs false
attribute [local go_sem high] eqA27
def plenumlaw49_same.l0 : Nat → List (S23) → List (S27) → Int → Option (Bool)
  | 0, _, _, _ => none
  | k + 1, x0, x1, x5 => if x5 < (x0.length : Int) then (if 0 ≤ x5 then ((plenumlaw49_part.f ((rd_T23 x0 x5).f0) ((rd_T23 x0 x5).f1) ((rd_T23 x0 x5).f2) ((rd_T23 x0 x5).f3) ((rd_T23 x0 x5).f4) ((rd_T23 x0 x5).f5)).bind fun bt341 => (if x5 < (x1.length : Int) then (if (!(bt341.1 == ((rd_T27 x1 x5).f0)) || (!(bt341.2.1 == ((rd_T27 x1 x5).f1)) || (!(bt341.2.2.1 == ((rd_T27 x1 x5).f2)) || (!(bt341.2.2.2.1 == ((rd_T27 x1 x5).f3)) || (!(bt341.2.2.2.2.1 == ((rd_T27 x1 x5).f4)) || (!(bt341.2.2.2.2.2.toList == (((rd_T27 x1 x5).f5).toList)))))))) = true then (some false) else (plenumlaw49_same.l0 k x0 x1 (wrap64 (x5 + 1)))) else (none))) else (none)) else (some true)
def plenumlaw49_same.f (k : Nat) (l0 : List (S23)) (l1 : List (S27)) : Option (Bool) := if (l0.length : Int) = (l1.length : Int) then (plenumlaw49_same.l0 k l0 l1 0) else (some false)
def plenumlaw49_same.T6 : Bool × List (List Nat × List Nat) := (true, [([], []), ([], []), ([0, 1], [0, 1]), ([2], [2]), ([3], [3]), ([], []), ([], []), ([5, 6], [5, 6]), ([7], [7]), ([4, 8], [4, 8])])
def plenumlaw49_same.B6 : List Nat := [0, 0, 3, 7, 15, 0, 0, 96, 224, 511]
theorem plenumlaw49_same.tab6 : rtab .any (opsOf Tryd.f23 6) = plenumlaw49_same.T6 := by kernel_rfl
theorem plenumlaw49_same.bits6 : waitsOk plenumlaw49_same.T6.2 plenumlaw49_same.B6 = true := by kernel_rfl
set_option maxHeartbeats 8000000 in
set_option maxRecDepth 100000 in
theorem plenumlaw49_same.calls (k : Nat) (A0 : Option Addr) (c0 : Nat) (l0 : List (S23)) (A1 : Option Addr) (c1 : Nat) (l1 : List (S27)) (r : Bool) (w : World) (hG : Glob w) (hr0 : Kd.C k23 w A0 l0.length l0) (hc0 : l0.length ≤ c0) (hr1 : Kd.C k27 w A1 l1.length l1) (hc1 : l1.length ≤ c1) (h : plenumlaw49_same.f k l0 l1 = some r) :
    Calls Tryd.prog 23 #[.slice A0 l0.length c0, .slice A1 l1.length c1] w fun e w' => e = .returned (.bool r) ∧ Below w.heap.size w w' := by
  have hu23 := Tryd.underlying23
  have hu27 := Tryd.underlying27
  have HG := Aside0.mk hG
  clear hG
  have HR0 := Aside0.mk hr0
  have HC0 := Aside0.mk hc0
  clear hr0 hc0
  have HR1 := Aside0.mk hr1
  have HC1 := Aside0.mk hc1
  clear hr1 hc1
  have HB := Aside0.mk (Below.refl w.heap.size w)
  have H : (if (l0.length : Int) = (l1.length : Int) then (plenumlaw49_same.l0 k l0 l1 0) else (some false)) = some r := h
  clear h
  by_cases c3 : (l0.length : Int) = (l1.length : Int)
  · rw [if_pos c3] at H
    have c3b0 : ((l0.length : Int) == (l1.length : Int)) = true := beq_iff_eq.mpr c3
    have c3b1 : ((l0.length : Int) != (l1.length : Int)) = false := bne_eq_false_iff_eq.mpr c3
    have c3b2 : (l0.length == l1.length) = true := by first | simpa using c3 | (simp at c3 ⊢; omega)
    clear c3
    have H' := Aside0.mk H
    clear H
    go_enter Tryd.func23, Tryd.ntmps23
    go_wp2
    go_loopg [5] k (fun kq v5 w' => ∃ (x5_1 : Int), v5 = .int .i64 x5_1 ∧ Aside0 (plenumlaw49_same.l0 kq l0 l1 x5_1 = some r) ∧ Aside0 (kq ≤ k) ∧ Aside0 (Below w.heap.size w w'))
    case atStart => exact ⟨(0), (by first | rfl | (simp; done) | (simp [*]; done)), H', ⟨Nat.le_refl _⟩, ⟨by repeat (first | (with_reducible first | exact HB.out | apply below_alloc | apply pw_below_drewN | apply below_drew1) | exact HB.out)⟩⟩
    case round =>
      clear H'
      try clear c1
      try clear c2
      try clear p2
      try clear c3
      try clear c3b0
      try clear c3b1
      try clear c3b2
      obtain ⟨x5_1, rfl, HA, HK1, HB⟩ := hrel
      cases gk with
      | zero => exact absurd HA.out (by simp [plenumlaw49_same.l0])
      | succ k1 =>
        have H := HA.out
        clear HA
        simp only [plenumlaw49_same.l0] at H
        by_cases c4 : x5_1 < (l0.length : Int)
        · rw [if_pos c4] at H
          have c4b0 : decide (x5_1 < (l0.length : Int)) = true := decide_eq_true c4
          clear c4
          by_cases c5 : 0 ≤ x5_1
          · rw [if_pos c5] at H
            have c5b0 : decide (0 ≤ x5_1) = true := decide_eq_true c5
            clear c5
            replace H := Option.bind_eq_some_iff.mp H
            obtain ⟨⟨t341, t342, t343, t344, t345, t346⟩, A60, H⟩ := H
            replace H : (if x5_1 < (l1.length : Int) then (if (!(t341 == ((rd_T27 l1 x5_1).f0)) || (!(t342 == ((rd_T27 l1 x5_1).f1)) || (!(t343 == ((rd_T27 l1 x5_1).f2)) || (!(t344 == ((rd_T27 l1 x5_1).f3)) || (!(t345 == ((rd_T27 l1 x5_1).f4)) || (!(t346.toList == (((rd_T27 l1 x5_1).f5).toList)))))))) = true then (some false) else (plenumlaw49_same.l0 k1 l0 l1 (wrap64 (x5_1 + 1)))) else (none)) = some r := H
            have A6 := Aside0.mk A60
            clear A60
            by_cases c7 : x5_1 < (l1.length : Int)
            · rw [if_pos c7] at H
              have c7b0 : decide (x5_1 < (l1.length : Int)) = true := decide_eq_true c7
              clear c7
              by_cases c8 : (!(t341 == ((rd_T27 l1 x5_1).f0)) || (!(t342 == ((rd_T27 l1 x5_1).f1)) || (!(t343 == ((rd_T27 l1 x5_1).f2)) || (!(t344 == ((rd_T27 l1 x5_1).f3)) || (!(t345 == ((rd_T27 l1 x5_1).f4)) || (!(t346.toList == (((rd_T27 l1 x5_1).f5).toList)))))))) = true
              · rw [if_pos c8] at H
                have c8b0 : (!(t341 == ((rd_T27 l1 x5_1).f0)) || (!(t342 == ((rd_T27 l1 x5_1).f1)) || (!(t343 == ((rd_T27 l1 x5_1).f2)) || (!(t344 == ((rd_T27 l1 x5_1).f3)) || (!(t345 == ((rd_T27 l1 x5_1).f4)) || (!(t346.toList == (((rd_T27 l1 x5_1).f5).toList)))))))) = true := c8
                clear c8
                obtain rfl := Option.some.inj H
                try go_wp2
                have n0_ := Aside0.mk (below_drew1 HB.out)
                clear HB
                have HB := n0_
                clear n0_
                have p340 : 0 ≤ (x5_1 : Int) := of_decide_eq_true (by first | (with_reducible assumption) | assumption)
                have q340 : x5_1 < (l0.length : Int) := of_decide_eq_true (by first | (with_reducible assumption) | assumption)
                obtain ⟨ad340, e340, hx340_0, hx340_1, hx340_2, hx340_3, hx340_4, hx340_5⟩ := at_T23 HR0.out x5_1 p340 q340
                have hw340_5 := hx340_5
                have hw340_4 := hx340_4
                have hw340_3 := hx340_3
                have hw340_2 := hx340_2
                have hw340_1 := hx340_1
                have hw340_0 := hx340_0
                cases e340
                replace hx340_0 := (HB.out.cell (World.block_lt_of_cell? w _ hx340_0)).trans hx340_0
                replace hx340_1 := (HB.out.cell (World.block_lt_of_cell? w _ hx340_1)).trans hx340_1
                replace hx340_2 := (HB.out.cell (World.block_lt_of_cell? w _ hx340_2)).trans hx340_2
                replace hx340_3 := (HB.out.cell (World.block_lt_of_cell? w _ hx340_3)).trans hx340_3
                replace hx340_4 := (HB.out.cell (World.block_lt_of_cell? w _ hx340_4)).trans hx340_4
                replace hx340_5 := (HB.out.cell (World.block_lt_of_cell? w _ hx340_5)).trans hx340_5
                replace p340 := eq_true p340
                replace q340 := eq_true q340
                have p347 : 0 ≤ (x5_1 : Int) := of_decide_eq_true (by first | (with_reducible assumption) | assumption)
                have q347 : x5_1 < (l1.length : Int) := of_decide_eq_true (by first | (with_reducible assumption) | assumption)
                obtain ⟨ad347, e347, hx347_0, hx347_1, hx347_2, hx347_3, hx347_4, hx347_5⟩ := at_T27 HR1.out x5_1 p347 q347
                have hw347_5 := hx347_5
                have hw347_4 := hx347_4
                have hw347_3 := hx347_3
                have hw347_2 := hx347_2
                have hw347_1 := hx347_1
                have hw347_0 := hx347_0
                cases e347
                replace hx347_0 := (HB.out.cell (World.block_lt_of_cell? w _ hx347_0)).trans hx347_0
                replace hx347_1 := (HB.out.cell (World.block_lt_of_cell? w _ hx347_1)).trans hx347_1
                replace hx347_2 := (HB.out.cell (World.block_lt_of_cell? w _ hx347_2)).trans hx347_2
                replace hx347_3 := (HB.out.cell (World.block_lt_of_cell? w _ hx347_3)).trans hx347_3
                replace hx347_4 := (HB.out.cell (World.block_lt_of_cell? w _ hx347_4)).trans hx347_4
                replace hx347_5 := (HB.out.cell (World.block_lt_of_cell? w _ hx347_5)).trans hx347_5
                replace p347 := eq_true p347
                replace q347 := eq_true q347
                refine start_ (n := 10) (S := fun w' => w'.cell? (ad340.add ((x5_1).toNat * 6)) = some (.int .i64 ((rd_T23 l0 x5_1).f0)) ∧ w'.cell? ⟨(ad340.add ((x5_1).toNat * 6)).block, (ad340.add ((x5_1).toNat * 6)).off + 1, none⟩ = some (.int .i64 ((rd_T23 l0 x5_1).f1)) ∧ w'.cell? ⟨(ad340.add ((x5_1).toNat * 6)).block, (ad340.add ((x5_1).toNat * 6)).off + 2, none⟩ = some (.int .i64 ((rd_T23 l0 x5_1).f2)) ∧ w'.cell? ⟨(ad340.add ((x5_1).toNat * 6)).block, (ad340.add ((x5_1).toNat * 6)).off + 3, none⟩ = some (.bool ((rd_T23 l0 x5_1).f3)) ∧ w'.cell? ⟨(ad340.add ((x5_1).toNat * 6)).block, (ad340.add ((x5_1).toNat * 6)).off + 4, none⟩ = some (.int .i64 ((rd_T23 l0 x5_1).f4)) ∧ w'.cell? ⟨(ad340.add ((x5_1).toNat * 6)).block, (ad340.add ((x5_1).toNat * 6)).off + 5, none⟩ = some (.string ((rd_T23 l0 x5_1).f5)) ∧ w'.cell? (ad347.add ((x5_1).toNat * 6)) = some (.int .i64 ((rd_T27 l1 x5_1).f0)) ∧ w'.cell? ⟨(ad347.add ((x5_1).toNat * 6)).block, (ad347.add ((x5_1).toNat * 6)).off + 1, none⟩ = some (.int .i64 ((rd_T27 l1 x5_1).f1)) ∧ w'.cell? ⟨(ad347.add ((x5_1).toNat * 6)).block, (ad347.add ((x5_1).toNat * 6)).off + 2, none⟩ = some (.int .i64 ((rd_T27 l1 x5_1).f2)) ∧ w'.cell? ⟨(ad347.add ((x5_1).toNat * 6)).block, (ad347.add ((x5_1).toNat * 6)).off + 3, none⟩ = some (.bool ((rd_T27 l1 x5_1).f3)) ∧ w'.cell? ⟨(ad347.add ((x5_1).toNat * 6)).block, (ad347.add ((x5_1).toNat * 6)).off + 4, none⟩ = some (.int .i64 ((rd_T27 l1 x5_1).f4)) ∧ w'.cell? ⟨(ad347.add ((x5_1).toNat * 6)).block, (ad347.add ((x5_1).toNat * 6)).off + 5, none⟩ = some (.string ((rd_T27 l1 x5_1).f5))) (ds := []) #[Yn, Yn, Yn, Yn, Yn, Yn, Yn, Yn, Yn, Yn] (by kernel_rfl) rfl rfl ⟨((HB.out.cell (World.block_lt_of_cell? w _ hw340_0)).trans hw340_0), ((HB.out.cell (World.block_lt_of_cell? w _ hw340_1)).trans hw340_1), ((HB.out.cell (World.block_lt_of_cell? w _ hw340_2)).trans hw340_2), ((HB.out.cell (World.block_lt_of_cell? w _ hw340_3)).trans hw340_3), ((HB.out.cell (World.block_lt_of_cell? w _ hw340_4)).trans hw340_4), ((HB.out.cell (World.block_lt_of_cell? w _ hw340_5)).trans hw340_5), ((HB.out.cell (World.block_lt_of_cell? w _ hw347_0)).trans hw347_0), ((HB.out.cell (World.block_lt_of_cell? w _ hw347_1)).trans hw347_1), ((HB.out.cell (World.block_lt_of_cell? w _ hw347_2)).trans hw347_2), ((HB.out.cell (World.block_lt_of_cell? w _ hw347_3)).trans hw347_3), ((HB.out.cell (World.block_lt_of_cell? w _ hw347_4)).trans hw347_4), ((HB.out.cell (World.block_lt_of_cell? w _ hw347_5)).trans hw347_5)⟩ (fun hHeld => ?_); refine with_tabW plenumlaw49_same.tab6 plenumlaw49_same.bits6 (fun HT_ HW_ => ?_)
                generalize wr.drew = w9 at HB hx340_0 hx340_1 hx340_2 hx340_3 hx340_4 hx340_5 hx347_0 hx347_1 hx347_2 hx347_3 hx347_4 hx347_5 hHeld ⊢
                refine pure_ (i := 0) (N := some 17) (v := ?_) (a' := ?_) #[Y, Yn, Yn, Yn, Yn, Yn, Yn, Yn, Yn, Yn] rfl rfl (any_of HT_.out (by kernel_rfl)) (fun _ _ _ h => h) (Or.inl ⟨by rfl, ?_⟩) ?_ ?_
                rotate_left
                · intro w'
                  go_simp
                  with_reducible rfl
                rotate_left
                · simp only [Act.put, List.setIfInBounds_toArray, List.set_cons_zero, List.set_cons_succ, i64_w, i32_w]
                  rfl
                refine pure_ (i := 1) (N := some 18) (v := ?_) (a' := ?_) #[Y, Y, Yn, Yn, Yn, Yn, Yn, Yn, Yn, Yn] rfl rfl (any_of HT_.out (by kernel_rfl)) (fun _ _ _ h => h) (Or.inl ⟨by rfl, ?_⟩) ?_ ?_
                rotate_left
                · intro w'
                  go_simp
                  with_reducible rfl
                rotate_left
                · simp only [Act.put, List.setIfInBounds_toArray, List.set_cons_zero, List.set_cons_succ, i64_w, i32_w]
                  rfl
                refine pure_ (i := 2) (N := some 19) (v := ?_) (a' := ?_) #[Y, Y, Y, Yn, Yn, Yn, Yn, Yn, Yn, Yn] rfl rfl (any_of HT_.out (by kernel_rfl)) (fun _ _ _ h => h) (Or.inl ⟨by rfl, ?_⟩) ?_ ?_
                rotate_left
                · intro w'
                  go_simp
                  with_reducible rfl
                rotate_left
                · simp only [Act.put, List.setIfInBounds_toArray, List.set_cons_zero, List.set_cons_succ, i64_w, i32_w]
                  rfl
                refine pure_ (i := 5) (N := some 22) (v := ?_) (a' := ?_) #[Y, Y, Y, Yn, Yn, Y, Yn, Yn, Yn, Yn] rfl rfl (any_of HT_.out (by kernel_rfl)) (fun _ _ _ h => h) (Or.inl ⟨by rfl, ?_⟩) ?_ ?_
                rotate_left
                · intro w'
                  go_simp
                  with_reducible rfl
                rotate_left
                · simp only [Act.put, List.setIfInBounds_toArray, List.set_cons_zero, List.set_cons_succ, i64_w, i32_w]
                  rfl
                refine pure_ (i := 6) (N := some 23) (v := ?_) (a' := ?_) #[Y, Y, Y, Yn, Yn, Y, Y, Yn, Yn, Yn] rfl rfl (any_of HT_.out (by kernel_rfl)) (fun _ _ _ h => h) (Or.inl ⟨by rfl, ?_⟩) ?_ ?_
                rotate_left
                · intro w'
                  go_simp
                  with_reducible rfl
                rotate_left
                · simp only [Act.put, List.setIfInBounds_toArray, List.set_cons_zero, List.set_cons_succ, i64_w, i32_w]
                  rfl
                refine pure_ (i := 7) (N := some 24) (v := ?_) (a' := ?_) #[Y, Y, Y, Yn, Yn, Y, Y, Y, Yn, Yn] rfl rfl (any_of HT_.out (by kernel_rfl)) (fun _ _ _ h => h) (Or.inl ⟨by rfl, ?_⟩) ?_ ?_
                rotate_left
                · intro w'
                  go_simp
                  with_reducible rfl
                rotate_left
                · simp only [Act.put, List.setIfInBounds_toArray, List.set_cons_zero, List.set_cons_succ, i64_w, i32_w]
                  rfl
                refine take_ (i := 3) (N := some 20) (v := ?_) (a' := ?_) #[Y, Y, Y, Y, Yn, Y, Y, Y, Yn, Yn] rfl rfl (take_ofW HT_.out HW_.out (by kernel_rfl)) (fun _ _ _ h => h) (Or.inl ⟨by rfl, ?_⟩) hHeld ?_ ?_
                rotate_left
                · rintro w' ⟨s0, s1, s2, s3, s4, s5, s6, s7, s8, s9, s10, s11⟩
                  go_simp
                  with_reducible rfl
                rotate_left
                · simp only [Act.put, List.setIfInBounds_toArray, List.set_cons_zero, List.set_cons_succ, i64_w, i32_w]
                  rfl
                refine take_ (i := 8) (N := some 25) (v := ?_) (a' := ?_) #[Y, Y, Y, Y, Yn, Y, Y, Y, Y, Yn] rfl rfl (take_ofW HT_.out HW_.out (by kernel_rfl)) (fun _ _ _ h => h) (Or.inl ⟨by rfl, ?_⟩) hHeld ?_ ?_
                rotate_left
                · rintro w' ⟨s0, s1, s2, s3, s4, s5, s6, s7, s8, s9, s10, s11⟩
                  go_simp
                  with_reducible rfl
                rotate_left
                · simp only [Act.put, List.setIfInBounds_toArray, List.set_cons_zero, List.set_cons_succ, i64_w, i32_w]
                  rfl
                refine one_ (i := 4) (N := some 21) #[Y, Y, Y, Y, Y, Y, Y, Y, Y, Yn] rfl rfl (one_of HT_.out (by kernel_rfl)) (by decide) (fun K hK => ?_)
                refine goes_ Tryd.func12 (by kernel_rfl) rfl #[.agg #[.int .i64 ((rd_T23 l0 x5_1).f0), .int .i64 ((rd_T23 l0 x5_1).f1), .int .i64 ((rd_T23 l0 x5_1).f2), .bool ((rd_T23 l0 x5_1).f3), .int .i64 ((rd_T23 l0 x5_1).f4), .string ((rd_T23 l0 x5_1).f5)]] (by rfl) rfl rfl (by (try simp only [List.map_toArray, List.map_cons, List.map_nil]); first | done | rfl | (simp only [List.length_drop, List.length_take]; rfl)) ?_
                with_reducible refine (plenumlaw49_part.calls ((rd_T23 l0 x5_1).f0) ((rd_T23 l0 x5_1).f1) ((rd_T23 l0 x5_1).f2) ((rd_T23 l0 x5_1).f3) ((rd_T23 l0 x5_1).f4) ((rd_T23 l0 x5_1).f5) t341 t342 t343 t344 t345 t346 _ ?side99  A6.out).mono ?_
                (case side99 => first | exact HG.out | exact Glob.below HG.out (by repeat (first | (with_reducible first | exact HB.out | apply below_alloc | apply pw_below_drewN | apply below_drew1) | exact HB.out)))
                rintro e w10 ⟨rfl, hb⟩
                refine ⟨_, rfl, ?_⟩
                have n0_ := Aside0.mk (below_step (by repeat (first | (with_reducible first | exact HB.out | apply below_alloc | apply pw_below_drewN | apply below_drew1) | exact HB.out)) hb)
                clear HB
                have HB := n0_
                clear n0_
                (try clear hb)
                (try clear hb2)
                (try clear hk)
                (try clear hi)
                refine hK.out _ _ ⟨((HB.out.cell (World.block_lt_of_cell? w _ hw340_0)).trans hw340_0), ((HB.out.cell (World.block_lt_of_cell? w _ hw340_1)).trans hw340_1), ((HB.out.cell (World.block_lt_of_cell? w _ hw340_2)).trans hw340_2), ((HB.out.cell (World.block_lt_of_cell? w _ hw340_3)).trans hw340_3), ((HB.out.cell (World.block_lt_of_cell? w _ hw340_4)).trans hw340_4), ((HB.out.cell (World.block_lt_of_cell? w _ hw340_5)).trans hw340_5), ((HB.out.cell (World.block_lt_of_cell? w _ hw347_0)).trans hw347_0), ((HB.out.cell (World.block_lt_of_cell? w _ hw347_1)).trans hw347_1), ((HB.out.cell (World.block_lt_of_cell? w _ hw347_2)).trans hw347_2), ((HB.out.cell (World.block_lt_of_cell? w _ hw347_3)).trans hw347_3), ((HB.out.cell (World.block_lt_of_cell? w _ hw347_4)).trans hw347_4), ((HB.out.cell (World.block_lt_of_cell? w _ hw347_5)).trans hw347_5)⟩ (fun hHeld => ?_)
                clear hK K
                refine norm_ (a' := ?_) ?_ ?_
                rotate_left
                · show Act.put _ (some 21) _ = _
                  simp only [Act.put, List.setIfInBounds_toArray, List.set_cons_zero, List.set_cons_succ, i64_w, i32_w]
                  rfl
                refine pure_ (i := 9) (N := some 26) (v := ?_) (a' := ?_) #[Y, Y, Y, Y, Y, Y, Y, Y, Y, Y] rfl rfl (any_of HT_.out (by kernel_rfl)) (fun _ _ _ h => h) (Or.inl ⟨by rfl, ?_⟩) ?_ ?_
                rotate_left
                · intro w'
                  go_simp
                  with_reducible rfl
                rotate_left
                · simp only [Act.put, List.setIfInBounds_toArray, List.set_cons_zero, List.set_cons_succ, i64_w, i32_w]
                  rfl
                refine done_ (done_of HT_.out (by kernel_rfl)) ?_
                try go_wp2
                go_ret
                exact ⟨by first | rfl | (simp [errW_none, errW_some] <;> rfl) | (simp [*, errW_none, errW_some] <;> rfl), by repeat (first | (with_reducible first | exact HB.out | apply below_alloc | apply pw_below_drewN | apply below_drew1) | exact HB.out)⟩
              · rw [if_neg c8] at H
                have c8b0 : (!(t341 == ((rd_T27 l1 x5_1).f0)) || (!(t342 == ((rd_T27 l1 x5_1).f1)) || (!(t343 == ((rd_T27 l1 x5_1).f2)) || (!(t344 == ((rd_T27 l1 x5_1).f3)) || (!(t345 == ((rd_T27 l1 x5_1).f4)) || (!(t346.toList == (((rd_T27 l1 x5_1).f5).toList)))))))) = false := by simpa using c8
                clear c8
                have H' := Aside0.mk H
                clear H
                try go_wp2
                have n0_ := Aside0.mk (below_drew1 HB.out)
                clear HB
                have HB := n0_
                clear n0_
                have p340 : 0 ≤ (x5_1 : Int) := of_decide_eq_true (by first | (with_reducible assumption) | assumption)
                have q340 : x5_1 < (l0.length : Int) := of_decide_eq_true (by first | (with_reducible assumption) | assumption)
                obtain ⟨ad340, e340, hx340_0, hx340_1, hx340_2, hx340_3, hx340_4, hx340_5⟩ := at_T23 HR0.out x5_1 p340 q340
                have hw340_5 := hx340_5
                have hw340_4 := hx340_4
                have hw340_3 := hx340_3
                have hw340_2 := hx340_2
                have hw340_1 := hx340_1
                have hw340_0 := hx340_0
                cases e340
                replace hx340_0 := (HB.out.cell (World.block_lt_of_cell? w _ hx340_0)).trans hx340_0
                replace hx340_1 := (HB.out.cell (World.block_lt_of_cell? w _ hx340_1)).trans hx340_1
                replace hx340_2 := (HB.out.cell (World.block_lt_of_cell? w _ hx340_2)).trans hx340_2
                replace hx340_3 := (HB.out.cell (World.block_lt_of_cell? w _ hx340_3)).trans hx340_3
                replace hx340_4 := (HB.out.cell (World.block_lt_of_cell? w _ hx340_4)).trans hx340_4
                replace hx340_5 := (HB.out.cell (World.block_lt_of_cell? w _ hx340_5)).trans hx340_5
                replace p340 := eq_true p340
                replace q340 := eq_true q340
                have p347 : 0 ≤ (x5_1 : Int) := of_decide_eq_true (by first | (with_reducible assumption) | assumption)
                have q347 : x5_1 < (l1.length : Int) := of_decide_eq_true (by first | (with_reducible assumption) | assumption)
                obtain ⟨ad347, e347, hx347_0, hx347_1, hx347_2, hx347_3, hx347_4, hx347_5⟩ := at_T27 HR1.out x5_1 p347 q347
                have hw347_5 := hx347_5
                have hw347_4 := hx347_4
                have hw347_3 := hx347_3
                have hw347_2 := hx347_2
                have hw347_1 := hx347_1
                have hw347_0 := hx347_0
                cases e347
                replace hx347_0 := (HB.out.cell (World.block_lt_of_cell? w _ hx347_0)).trans hx347_0
                replace hx347_1 := (HB.out.cell (World.block_lt_of_cell? w _ hx347_1)).trans hx347_1
                replace hx347_2 := (HB.out.cell (World.block_lt_of_cell? w _ hx347_2)).trans hx347_2
                replace hx347_3 := (HB.out.cell (World.block_lt_of_cell? w _ hx347_3)).trans hx347_3
                replace hx347_4 := (HB.out.cell (World.block_lt_of_cell? w _ hx347_4)).trans hx347_4
                replace hx347_5 := (HB.out.cell (World.block_lt_of_cell? w _ hx347_5)).trans hx347_5
                replace p347 := eq_true p347
                replace q347 := eq_true q347
                refine start_ (n := 10) (S := fun w' => w'.cell? (ad340.add ((x5_1).toNat * 6)) = some (.int .i64 ((rd_T23 l0 x5_1).f0)) ∧ w'.cell? ⟨(ad340.add ((x5_1).toNat * 6)).block, (ad340.add ((x5_1).toNat * 6)).off + 1, none⟩ = some (.int .i64 ((rd_T23 l0 x5_1).f1)) ∧ w'.cell? ⟨(ad340.add ((x5_1).toNat * 6)).block, (ad340.add ((x5_1).toNat * 6)).off + 2, none⟩ = some (.int .i64 ((rd_T23 l0 x5_1).f2)) ∧ w'.cell? ⟨(ad340.add ((x5_1).toNat * 6)).block, (ad340.add ((x5_1).toNat * 6)).off + 3, none⟩ = some (.bool ((rd_T23 l0 x5_1).f3)) ∧ w'.cell? ⟨(ad340.add ((x5_1).toNat * 6)).block, (ad340.add ((x5_1).toNat * 6)).off + 4, none⟩ = some (.int .i64 ((rd_T23 l0 x5_1).f4)) ∧ w'.cell? ⟨(ad340.add ((x5_1).toNat * 6)).block, (ad340.add ((x5_1).toNat * 6)).off + 5, none⟩ = some (.string ((rd_T23 l0 x5_1).f5)) ∧ w'.cell? (ad347.add ((x5_1).toNat * 6)) = some (.int .i64 ((rd_T27 l1 x5_1).f0)) ∧ w'.cell? ⟨(ad347.add ((x5_1).toNat * 6)).block, (ad347.add ((x5_1).toNat * 6)).off + 1, none⟩ = some (.int .i64 ((rd_T27 l1 x5_1).f1)) ∧ w'.cell? ⟨(ad347.add ((x5_1).toNat * 6)).block, (ad347.add ((x5_1).toNat * 6)).off + 2, none⟩ = some (.int .i64 ((rd_T27 l1 x5_1).f2)) ∧ w'.cell? ⟨(ad347.add ((x5_1).toNat * 6)).block, (ad347.add ((x5_1).toNat * 6)).off + 3, none⟩ = some (.bool ((rd_T27 l1 x5_1).f3)) ∧ w'.cell? ⟨(ad347.add ((x5_1).toNat * 6)).block, (ad347.add ((x5_1).toNat * 6)).off + 4, none⟩ = some (.int .i64 ((rd_T27 l1 x5_1).f4)) ∧ w'.cell? ⟨(ad347.add ((x5_1).toNat * 6)).block, (ad347.add ((x5_1).toNat * 6)).off + 5, none⟩ = some (.string ((rd_T27 l1 x5_1).f5))) (ds := []) #[Yn, Yn, Yn, Yn, Yn, Yn, Yn, Yn, Yn, Yn] (by kernel_rfl) rfl rfl ⟨((HB.out.cell (World.block_lt_of_cell? w _ hw340_0)).trans hw340_0), ((HB.out.cell (World.block_lt_of_cell? w _ hw340_1)).trans hw340_1), ((HB.out.cell (World.block_lt_of_cell? w _ hw340_2)).trans hw340_2), ((HB.out.cell (World.block_lt_of_cell? w _ hw340_3)).trans hw340_3), ((HB.out.cell (World.block_lt_of_cell? w _ hw340_4)).trans hw340_4), ((HB.out.cell (World.block_lt_of_cell? w _ hw340_5)).trans hw340_5), ((HB.out.cell (World.block_lt_of_cell? w _ hw347_0)).trans hw347_0), ((HB.out.cell (World.block_lt_of_cell? w _ hw347_1)).trans hw347_1), ((HB.out.cell (World.block_lt_of_cell? w _ hw347_2)).trans hw347_2), ((HB.out.cell (World.block_lt_of_cell? w _ hw347_3)).trans hw347_3), ((HB.out.cell (World.block_lt_of_cell? w _ hw347_4)).trans hw347_4), ((HB.out.cell (World.block_lt_of_cell? w _ hw347_5)).trans hw347_5)⟩ (fun hHeld => ?_); refine with_tabW plenumlaw49_same.tab6 plenumlaw49_same.bits6 (fun HT_ HW_ => ?_)
                generalize wr.drew = w11 at HB hx340_0 hx340_1 hx340_2 hx340_3 hx340_4 hx340_5 hx347_0 hx347_1 hx347_2 hx347_3 hx347_4 hx347_5 hHeld ⊢
                refine pure_ (i := 0) (N := some 17) (v := ?_) (a' := ?_) #[Y, Yn, Yn, Yn, Yn, Yn, Yn, Yn, Yn, Yn] rfl rfl (any_of HT_.out (by kernel_rfl)) (fun _ _ _ h => h) (Or.inl ⟨by rfl, ?_⟩) ?_ ?_
                rotate_left
                · intro w'
                  go_simp
                  with_reducible rfl
                rotate_left
                · simp only [Act.put, List.setIfInBounds_toArray, List.set_cons_zero, List.set_cons_succ, i64_w, i32_w]
                  rfl
                refine pure_ (i := 1) (N := some 18) (v := ?_) (a' := ?_) #[Y, Y, Yn, Yn, Yn, Yn, Yn, Yn, Yn, Yn] rfl rfl (any_of HT_.out (by kernel_rfl)) (fun _ _ _ h => h) (Or.inl ⟨by rfl, ?_⟩) ?_ ?_
                rotate_left
                · intro w'
                  go_simp
                  with_reducible rfl
                rotate_left
                · simp only [Act.put, List.setIfInBounds_toArray, List.set_cons_zero, List.set_cons_succ, i64_w, i32_w]
                  rfl
                refine pure_ (i := 2) (N := some 19) (v := ?_) (a' := ?_) #[Y, Y, Y, Yn, Yn, Yn, Yn, Yn, Yn, Yn] rfl rfl (any_of HT_.out (by kernel_rfl)) (fun _ _ _ h => h) (Or.inl ⟨by rfl, ?_⟩) ?_ ?_
                rotate_left
                · intro w'
                  go_simp
                  with_reducible rfl
                rotate_left
                · simp only [Act.put, List.setIfInBounds_toArray, List.set_cons_zero, List.set_cons_succ, i64_w, i32_w]
                  rfl
                refine pure_ (i := 5) (N := some 22) (v := ?_) (a' := ?_) #[Y, Y, Y, Yn, Yn, Y, Yn, Yn, Yn, Yn] rfl rfl (any_of HT_.out (by kernel_rfl)) (fun _ _ _ h => h) (Or.inl ⟨by rfl, ?_⟩) ?_ ?_
                rotate_left
                · intro w'
                  go_simp
                  with_reducible rfl
                rotate_left
                · simp only [Act.put, List.setIfInBounds_toArray, List.set_cons_zero, List.set_cons_succ, i64_w, i32_w]
                  rfl
                refine pure_ (i := 6) (N := some 23) (v := ?_) (a' := ?_) #[Y, Y, Y, Yn, Yn, Y, Y, Yn, Yn, Yn] rfl rfl (any_of HT_.out (by kernel_rfl)) (fun _ _ _ h => h) (Or.inl ⟨by rfl, ?_⟩) ?_ ?_
                rotate_left
                · intro w'
                  go_simp
                  with_reducible rfl
                rotate_left
                · simp only [Act.put, List.setIfInBounds_toArray, List.set_cons_zero, List.set_cons_succ, i64_w, i32_w]
                  rfl
                refine pure_ (i := 7) (N := some 24) (v := ?_) (a' := ?_) #[Y, Y, Y, Yn, Yn, Y, Y, Y, Yn, Yn] rfl rfl (any_of HT_.out (by kernel_rfl)) (fun _ _ _ h => h) (Or.inl ⟨by rfl, ?_⟩) ?_ ?_
                rotate_left
                · intro w'
                  go_simp
                  with_reducible rfl
                rotate_left
                · simp only [Act.put, List.setIfInBounds_toArray, List.set_cons_zero, List.set_cons_succ, i64_w, i32_w]
                  rfl
                refine take_ (i := 3) (N := some 20) (v := ?_) (a' := ?_) #[Y, Y, Y, Y, Yn, Y, Y, Y, Yn, Yn] rfl rfl (take_ofW HT_.out HW_.out (by kernel_rfl)) (fun _ _ _ h => h) (Or.inl ⟨by rfl, ?_⟩) hHeld ?_ ?_
                rotate_left
                · rintro w' ⟨s0, s1, s2, s3, s4, s5, s6, s7, s8, s9, s10, s11⟩
                  go_simp
                  with_reducible rfl
                rotate_left
                · simp only [Act.put, List.setIfInBounds_toArray, List.set_cons_zero, List.set_cons_succ, i64_w, i32_w]
                  rfl
                refine take_ (i := 8) (N := some 25) (v := ?_) (a' := ?_) #[Y, Y, Y, Y, Yn, Y, Y, Y, Y, Yn] rfl rfl (take_ofW HT_.out HW_.out (by kernel_rfl)) (fun _ _ _ h => h) (Or.inl ⟨by rfl, ?_⟩) hHeld ?_ ?_
                rotate_left
                · rintro w' ⟨s0, s1, s2, s3, s4, s5, s6, s7, s8, s9, s10, s11⟩
                  go_simp
                  with_reducible rfl
                rotate_left
                · simp only [Act.put, List.setIfInBounds_toArray, List.set_cons_zero, List.set_cons_succ, i64_w, i32_w]
                  rfl
                refine one_ (i := 4) (N := some 21) #[Y, Y, Y, Y, Y, Y, Y, Y, Y, Yn] rfl rfl (one_of HT_.out (by kernel_rfl)) (by decide) (fun K hK => ?_)
                refine goes_ Tryd.func12 (by kernel_rfl) rfl #[.agg #[.int .i64 ((rd_T23 l0 x5_1).f0), .int .i64 ((rd_T23 l0 x5_1).f1), .int .i64 ((rd_T23 l0 x5_1).f2), .bool ((rd_T23 l0 x5_1).f3), .int .i64 ((rd_T23 l0 x5_1).f4), .string ((rd_T23 l0 x5_1).f5)]] (by rfl) rfl rfl (by (try simp only [List.map_toArray, List.map_cons, List.map_nil]); first | done | rfl | (simp only [List.length_drop, List.length_take]; rfl)) ?_
                with_reducible refine (plenumlaw49_part.calls ((rd_T23 l0 x5_1).f0) ((rd_T23 l0 x5_1).f1) ((rd_T23 l0 x5_1).f2) ((rd_T23 l0 x5_1).f3) ((rd_T23 l0 x5_1).f4) ((rd_T23 l0 x5_1).f5) t341 t342 t343 t344 t345 t346 _ ?side99  A6.out).mono ?_
                (case side99 => first | exact HG.out | exact Glob.below HG.out (by repeat (first | (with_reducible first | exact HB.out | apply below_alloc | apply pw_below_drewN | apply below_drew1) | exact HB.out)))
                rintro e w12 ⟨rfl, hb⟩
                refine ⟨_, rfl, ?_⟩
                have n0_ := Aside0.mk (below_step (by repeat (first | (with_reducible first | exact HB.out | apply below_alloc | apply pw_below_drewN | apply below_drew1) | exact HB.out)) hb)
                clear HB
                have HB := n0_
                clear n0_
                (try clear hb)
                (try clear hb2)
                (try clear hk)
                (try clear hi)
                refine hK.out _ _ ⟨((HB.out.cell (World.block_lt_of_cell? w _ hw340_0)).trans hw340_0), ((HB.out.cell (World.block_lt_of_cell? w _ hw340_1)).trans hw340_1), ((HB.out.cell (World.block_lt_of_cell? w _ hw340_2)).trans hw340_2), ((HB.out.cell (World.block_lt_of_cell? w _ hw340_3)).trans hw340_3), ((HB.out.cell (World.block_lt_of_cell? w _ hw340_4)).trans hw340_4), ((HB.out.cell (World.block_lt_of_cell? w _ hw340_5)).trans hw340_5), ((HB.out.cell (World.block_lt_of_cell? w _ hw347_0)).trans hw347_0), ((HB.out.cell (World.block_lt_of_cell? w _ hw347_1)).trans hw347_1), ((HB.out.cell (World.block_lt_of_cell? w _ hw347_2)).trans hw347_2), ((HB.out.cell (World.block_lt_of_cell? w _ hw347_3)).trans hw347_3), ((HB.out.cell (World.block_lt_of_cell? w _ hw347_4)).trans hw347_4), ((HB.out.cell (World.block_lt_of_cell? w _ hw347_5)).trans hw347_5)⟩ (fun hHeld => ?_)
                clear hK K
                refine norm_ (a' := ?_) ?_ ?_
                rotate_left
                · show Act.put _ (some 21) _ = _
                  simp only [Act.put, List.setIfInBounds_toArray, List.set_cons_zero, List.set_cons_succ, i64_w, i32_w]
                  rfl
                refine pure_ (i := 9) (N := some 26) (v := ?_) (a' := ?_) #[Y, Y, Y, Y, Y, Y, Y, Y, Y, Y] rfl rfl (any_of HT_.out (by kernel_rfl)) (fun _ _ _ h => h) (Or.inl ⟨by rfl, ?_⟩) ?_ ?_
                rotate_left
                · intro w'
                  go_simp
                  with_reducible rfl
                rotate_left
                · simp only [Act.put, List.setIfInBounds_toArray, List.set_cons_zero, List.set_cons_succ, i64_w, i32_w]
                  rfl
                refine done_ (done_of HT_.out (by kernel_rfl)) ?_
                try go_wp2
                go_roundg k1
                case measure => have := HK1.out; omega
                case rel => exact ⟨(wrap64 (x5_1 + 1)), (by first | rfl | (simp; done) | (simp [*]; done)), H', ⟨by have := HK1.out; omega⟩, ⟨by repeat (first | (with_reducible first | exact HB.out | apply below_alloc | apply pw_below_drewN | apply below_drew1) | exact HB.out)⟩⟩
            · rw [if_neg c7] at H
              exact absurd H (by simp)
          · rw [if_neg c5] at H
            exact absurd H (by simp)
        · rw [if_neg c4] at H
          have c4b0 : decide (x5_1 < (l0.length : Int)) = false := decide_eq_false c4
          clear c4
          obtain rfl := Option.some.inj H
          go_wp2
          go_ret
          exact ⟨by first | rfl | (simp [errW_none, errW_some] <;> rfl) | (simp [*, errW_none, errW_some] <;> rfl), by repeat (first | (with_reducible first | exact HB.out | apply below_alloc | apply pw_below_drewN | apply below_drew1) | exact HB.out)⟩
  · rw [if_neg c3] at H
    have c3b0 : ((l0.length : Int) == (l1.length : Int)) = false := beq_eq_false_iff_ne.mpr c3
    have c3b1 : ((l0.length : Int) != (l1.length : Int)) = true := bne_iff_ne.mpr c3
    have c3b2 : (l0.length == l1.length) = false := by first | simpa using c3 | (simp at c3 ⊢; omega)
    obtain rfl := Option.some.inj H
    go_enter Tryd.func23, Tryd.ntmps23
    go_wp2
    go_ret
    exact ⟨by first | rfl | (simp [errW_none, errW_some] <;> rfl) | (simp [*, errW_none, errW_some] <;> rfl), by repeat (first | (with_reducible first | exact HB.out | apply below_alloc | apply pw_below_drewN | apply below_drew1) | exact HB.out)⟩
end Go.Proofs.YtbgabhknmpbgiaaDoor.S
end
section
namespace Go.Proofs.YtbgabhknmpbgiaaDoor.S
open Go.RowKit Go.Proofs.YtbgabhknmpbgiaaDoor.Pure Go.Proofs.YtbgabhknmpbgiaaDoorW.PrintWords Go.Proofs.YtbgabhknmpbgiaaDoorW.PrintLast Go.Proofs.YtbgabhknmpbgiaaDoorW.PrintMore
set_option linter.unusedVariables false
set_option linter.unusedSimpArgs false
theorem C_str_move {w w1 : World} {A : Option Addr} {n : Nat} {xs : List ByteArray} (h : Kd.C Kd.string w A n xs) (hm : ∀ p b, w.cell? p = some (.string b) → w1.cell? p = some (.string b)) : Kd.C Kd.string w1 A n xs :=
  ⟨h.1, h.2.1, fun hn => by
    obtain ⟨ad, e, hc⟩ := h.2.2 hn
    refine ⟨ad, e, fun j p hj => ?_⟩
    obtain ⟨c, hs, hr, hcell⟩ := hc j p hj
    refine ⟨c, hs, hr, fun i u hu => ?_⟩
    have hr' : c = [.string p] := hr
    subst hr'
    cases i with
    | zero =>
      obtain rfl : Value.string p = u := by simpa using hu
      exact hm _ _ (hcell 0 _ rfl)
    | succ i => simp at hu⟩
theorem no_str {w : World} {g : Nat} {s : Sn} {A : Option Addr} {c : Nat} (h : w.heap[g]? = some (.cells #[.int .i64 s.id, .int .i64 s.window, .int .i64 s.timeout, .int .i64 s.retries, .slice A s.segs.length c, .int .i64 s.state, .int .i64 s.base, .int .i64 s.next, .int .i64 s.tries, .int .i64 s.deadline] 110 (0, 0))) (p : Addr) (b : ByteArray) (hp : p.block = g) : w.cell? p ≠ some (.string b) := by
  obtain ⟨blk, off, path⟩ := p
  obtain rfl : blk = g := hp
  intro hc
  simp only [World.cell?, h] at hc
  cases path with
  | some _ => simp at hc
  | none =>
    rcases off with _ | _ | _ | _ | _ | _ | _ | _ | _ | _ | off
    all_goals simp at hc
structure KeepX (w w' : World) (t0 : TypeId) : Prop where
  size : w.heap.size ≤ w'.heap.size
  keep : ∀ (k : Nat) cs t, w.heap[k]? = some (.cells cs t (0, 0)) → t ≠ t0 → w'.heap[k]? = some (.cells cs t (0, 0))
theorem KeepX.of_keepBut {w w1 : World} {g : Nat} {t0 : TypeId} {cs : Array Value} (h : KeepBut w w1 g none) (hg : w.heap[g]? = some (.cells cs t0 (0, 0))) : KeepX w w1 t0 := ⟨h.1, fun j cs' t hj ht => (h.2 j (blk_lt hj) (fun e => by subst e; rw [hj] at hg; injection hg with hg; injection hg with _ hg _; exact ht hg) (by simp)).trans hj⟩
theorem KeepX.k23 {w w1 : World} {t0 : TypeId} (h : KeepX w w1 t0) (ht : t0 ≠ 23) : Keep23 w w1 := ⟨h.size, fun k cs hk => h.keep k cs 23 hk (Ne.symm ht)⟩
structure Two (w0 ws : World) (gs gr : Nat) (s t : Sn) (w : World) : Prop where
  snd : AtP ws w gs s
  sb : Below ws.heap.size ws w
  rcv : ∃ wr, AtR wr w gr t ∧ Below wr.heap.size wr w ∧ ws.heap.size ≤ wr.heap.size
  b0 : w0.heap.size ≤ ws.heap.size
  base : Below w0.heap.size w0 w
theorem Two.ne {w0 ws : World} {gs gr : Nat} {s t : Sn} {w : World} (h : Two w0 ws gs gr s t w) : gs ≠ gr := by
  obtain ⟨A4, c4, h1, _⟩ := h.snd
  obtain ⟨wr, ⟨A5, c5, h2, _⟩, _⟩ := h.rcv
  exact blk_ne h1 h2 (by decide)
theorem Two.below {w0 ws : World} {gs gr : Nat} {s t : Sn} {w w1 : World} (h : Two w0 ws gs gr s t w) (hb : Below w.heap.size w w1) : Two w0 ws gs gr s t w1 := by
  obtain ⟨wr, h1, h2, h3⟩ := h.rcv
  exact ⟨h.snd.below hb, h.sb.trans (hb.mono h.sb.size), ⟨wr, IsS62.below h1 hb, h2.trans (hb.mono h2.size), h3⟩, h.b0, below_step h.base hb⟩
theorem Two.pcall {w0 ws : World} {gs gr : Nat} {s t : Sn} {w w1 : World} {x : List S23 × Sn} {e : Ending} (h : Two w0 ws gs gr s t w) (hp : PPost ws w gs x e w1) : ∃ v : Value, e = .returned v ∧ Pt w.heap.size w1 v x.1 ∧ Two w0 ws gs gr x.2 t w1 ∧ KeepX w w1 110 := by
  obtain ⟨v, he, hv, hs, hb, hk⟩ := hp
  have hne := h.ne
  obtain ⟨A4, c4, h1, h1b, h1c⟩ := h.snd
  obtain ⟨B4, d4, g1, g1b, g1c⟩ := hs
  obtain ⟨wr, ⟨A5, c5, h2, h2b, h2c⟩, h3, h4⟩ := h.rcv
  have hs' : AtP ws w1 gs x.2 := ⟨B4, d4, g1, g1b, g1c⟩
  have hos : w1.os = wr.os := hb.os.trans (h.sb.os.symm.trans h3.os)
  have htp : w1.tape = wr.tape := hb.tape.trans (h.sb.tape.symm.trans h3.tape)
  have hou : w1.output = wr.output := hb.output.trans (h.sb.output.symm.trans h3.output)
  have hgr : w1.heap[gr]? = w.heap[gr]? := hk.2 gr (blk_lt h2) (Ne.symm hne) (by simp)
  have hbase : Below w0.heap.size w0 w1 := ⟨hb.os.trans (h.sb.os.symm.trans h.base.os), hb.tape.trans (h.sb.tape.symm.trans h.base.tape), hb.output.trans (h.sb.output.symm.trans h.base.output), Nat.le_trans h.base.size hk.1, fun k hk0 => (hb.block k (Nat.lt_of_lt_of_le hk0 h.b0)).trans ((h.sb.block k (Nat.lt_of_lt_of_le hk0 h.b0)).symm.trans (h.base.block k hk0))⟩
  refine ⟨v, he, hv, ⟨hs', hb, ?_, h.b0, hbase⟩, KeepX.of_keepBut hk h1⟩
  by_cases hlt : gs < wr.heap.size
  · have hwr : wr.heap[gs]? = some (.cells #[.int .i64 s.id, .int .i64 s.window, .int .i64 s.timeout, .int .i64 s.retries, .slice A4 s.segs.length c4, .int .i64 s.state, .int .i64 s.base, .int .i64 s.next, .int .i64 s.tries, .int .i64 s.deadline] 110 (0, 0)) := (h3.block gs hlt).symm.trans h1
    refine ⟨wr.setRow gs #[.int .i64 x.2.id, .int .i64 x.2.window, .int .i64 x.2.timeout, .int .i64 x.2.retries, .slice B4 x.2.segs.length d4, .int .i64 x.2.state, .int .i64 x.2.base, .int .i64 x.2.next, .int .i64 x.2.tries, .int .i64 x.2.deadline], ⟨A5, c5, hgr.trans h2, by simpa using h2b, ?_⟩, ⟨hos, htp, hou, by simpa using Nat.le_trans h3.size hk.1, fun k hk0 => ?_⟩, by simpa using h4⟩
    · refine C_str_move h2c (fun p b hp => ?_)
      have hpn : p.block ≠ gs := fun e => no_str hwr p b e hp
      have := setRow_other wr gs p.block #[.int .i64 x.2.id, .int .i64 x.2.window, .int .i64 x.2.timeout, .int .i64 x.2.retries, .slice B4 x.2.segs.length d4, .int .i64 x.2.state, .int .i64 x.2.base, .int .i64 x.2.next, .int .i64 x.2.tries, .int .i64 x.2.deadline] hpn
      unfold World.cell? at hp ⊢
      rw [this]
      exact hp
    · have hk1 : k < wr.heap.size := by simpa using hk0
      by_cases hkg : k = gs
      · subst hkg
        rw [setRow_heap _ _ _ _ _ _ hwr]
        exact g1
      · rw [setRow_other _ _ _ _ hkg, hk.2 k (Nat.lt_of_lt_of_le hk1 h3.size) hkg (by simp)]
        exact h3.block k hk1
  · exact ⟨wr, ⟨A5, c5, hgr.trans h2, h2b, h2c⟩, ⟨hos, htp, hou, Nat.le_trans h3.size hk.1, fun k hk0 => (hk.2 k (Nat.lt_of_lt_of_le hk0 h3.size) (by omega) (by simp)).trans (h3.block k hk0)⟩, h4⟩
theorem Two.rcall {w0 ws : World} {gs gr : Nat} {s t : Sn} {w w1 wr : World} {x : List S23 × Sn} {e : Ending} (h : Two w0 ws gs gr s t w) (hw : AtR wr w gr t) (h3 : Below wr.heap.size wr w) (h4 : ws.heap.size ≤ wr.heap.size) (hp : RPost wr w gr x e w1) : ∃ v : Value, e = .returned v ∧ Kd.V k27 27 w1 0 (okT 27 w.heap.size w1) v (x.1.map conv) ∧ Two w0 ws gs gr s x.2 w1 ∧ KeepX w w1 62 := by
  obtain ⟨v, he, hv, hs, hb, hk⟩ := hp
  have hne := h.ne
  obtain ⟨A4, c4, h1, h1b, h1c⟩ := h.snd
  obtain ⟨A5, c5, h2, h2b, h2c⟩ := hw
  have hge : ws.heap.size ≤ gr := Nat.le_trans h4 h2b
  have hsb : Below ws.heap.size ws w1 := ⟨hb.os.trans (h3.os.symm.trans h.sb.os), hb.tape.trans (h3.tape.symm.trans h.sb.tape), hb.output.trans (h3.output.symm.trans h.sb.output), Nat.le_trans h.sb.size hk.1, fun k hk0 => (hk.2 k (Nat.lt_of_lt_of_le hk0 h.sb.size) (by omega) (by simp)).trans (h.sb.block k hk0)⟩
  have hbase : Below w0.heap.size w0 w1 := ⟨hsb.os.trans (h.sb.os.symm.trans h.base.os), hsb.tape.trans (h.sb.tape.symm.trans h.base.tape), hsb.output.trans (h.sb.output.symm.trans h.base.output), Nat.le_trans h.base.size hk.1, fun k hk0 => (hsb.block k (Nat.lt_of_lt_of_le hk0 h.b0)).trans ((h.sb.block k (Nat.lt_of_lt_of_le hk0 h.b0)).symm.trans (h.base.block k hk0))⟩
  exact ⟨v, he, hv, ⟨⟨A4, c4, (hk.2 gs (blk_lt h1) hne (by simp)).trans h1, h1b, h1c⟩, hsb, ⟨wr, hs, hb, h4⟩, h.b0, hbase⟩, KeepX.of_keepBut hk h2⟩
theorem Two.ptick {w0 ws : World} {gs gr : Nat} {s t : Sn} {w : World} (h : Two w0 ws gs gr s t w) (hs : OkS s) (now : Int) : Calls Tryd.prog 24 #[.pointer (some ⟨gs, 0, none⟩), .int .i64 now] w fun e w' => ∃ v : Value, e = .returned v ∧ Pt w.heap.size w' v (s.tick now).1 ∧ Two w0 ws gs gr (s.tick now).2 t w' ∧ KeepX w w' 110 :=
  (tickP_calls gs s now ws w h.snd h.sb hs).mono fun e w' hp => h.pcall hp
theorem Two.phandle {w0 ws : World} {gs gr : Nat} {s t : Sn} {w : World} (h : Two w0 ws gs gr s t w) (hs : OkS s) (p0 p1 p2 : Int) (p3 : Bool) (p4 : Int) (p5 : ByteArray) (now : Int) : Calls Tryd.prog 26 #[.pointer (some ⟨gs, 0, none⟩), .agg #[.int .i64 p0, .int .i64 p1, .int .i64 p2, .bool p3, .int .i64 p4, .string p5], .int .i64 now] w fun e w' => ∃ v : Value, e = .returned v ∧ Pt w.heap.size w' v (s.handle p0 p1 p2 now).1 ∧ Two w0 ws gs gr (s.handle p0 p1 p2 now).2 t w' ∧ KeepX w w' 110 :=
  (handleP_calls gs s p0 p1 p2 p3 p4 p5 now ws w h.snd h.sb hs).mono fun e w' hp => h.pcall hp
theorem Two.rtick {w0 ws : World} {gs gr : Nat} {s t : Sn} {w : World} (h : Two w0 ws gs gr s t w) (ht : OkS t) (now : Int) : Calls Tryd.prog 25 #[.pointer (some ⟨gr, 0, none⟩), .int .i64 now] w fun e w' => ∃ v : Value, e = .returned v ∧ Kd.V k27 27 w' 0 (okT 27 w.heap.size w') v ((t.tick now).1.map conv) ∧ Two w0 ws gs gr s (t.tick now).2 w' ∧ KeepX w w' 62 := by
  obtain ⟨wr, h1, h2, h3⟩ := h.rcv
  exact (tickR_calls gr t now wr w h1 h2 ht).mono fun e w' hp => h.rcall h1 h2 h3 hp
theorem Two.rhandle {w0 ws : World} {gs gr : Nat} {s t : Sn} {w : World} (h : Two w0 ws gs gr s t w) (ht : OkS t) (p0 p1 p2 : Int) (p3 : Bool) (p4 : Int) (p5 : ByteArray) (now : Int) : Calls Tryd.prog 28 #[.pointer (some ⟨gr, 0, none⟩), .agg #[.int .i64 p0, .int .i64 p1, .int .i64 p2, .bool p3, .int .i64 p4, .string p5], .int .i64 now] w fun e w' => ∃ v : Value, e = .returned v ∧ Kd.V k27 27 w' 0 (okT 27 w.heap.size w') v ((t.handle p0 p1 p2 now).1.map conv) ∧ Two w0 ws gs gr s (t.handle p0 p1 p2 now).2 w' ∧ KeepX w w' 62 := by
  obtain ⟨wr, h1, h2, h3⟩ := h.rcv
  exact (handleR_calls gr t p0 p1 p2 p3 p4 p5 now wr w h1 h2 ht).mono fun e w' hp => h.rcall h1 h2 h3 hp
theorem OkS.send {s : Sn} (h : OkS s) (now : Int) : OkS (s.send now).2 ∧ (s.send now).1.length ≤ 64 := by
  have hc := h.cnt
  refine ⟨⟨h.len, h.w0, h.w1, h.b0, h.b1, ?_, ?_⟩, ?_⟩
  · show 0 ≤ s.next + (s.cnt : Int)
    have := h.n0
    omega
  · show s.next + (s.cnt : Int) ≤ 64
    have h1 := h.n1
    have h2 := h.len
    unfold Sn.cnt mn
    split <;> omega
  · show (parts23 s.id s.window s.segs s.next.toNat s.cnt).length ≤ 64
    rw [parts23_len]
    exact hc
theorem OkS.tick {s : Sn} (h : OkS s) (now : Int) : OkS (s.tick now).2 ∧ (s.tick now).1.length ≤ 64 := by
  unfold Sn.tick
  split
  · split
    · exact ⟨h, by simp⟩
    · split
      · exact ⟨⟨h.len, h.w0, h.w1, h.b0, h.b1, h.n0, h.n1⟩, by simp⟩
      · exact OkS.send (s := { s with tries := wrap64 (s.tries + 1), next := s.base }) ⟨h.len, h.w0, h.w1, h.b0, h.b1, h.b0, h.b1⟩ now
  · exact ⟨h, by simp⟩
theorem OkS.handle {s : Sn} (h : OkS s) (kind id number now : Int) : OkS (s.handle kind id number now).2 ∧ (s.handle kind id number now).1.length ≤ 64 := by
  unfold Sn.handle
  split
  · split
    · split
      · exact ⟨⟨h.len, h.w0, h.w1, h.b0, h.b1, h.n0, h.n1⟩, by simp⟩
      · split
        · split
          · split
            · rename_i _ _ _ _ a b
              have h0 := h.b0
              have h1 := h.n1
              split
              · exact ⟨⟨h.len, h.w0, h.w1, by show 0 ≤ number + 1; omega, by show number + 1 ≤ 64; omega, h.n0, h.n1⟩, by simp⟩
              · exact OkS.send (s := s.acked number) ⟨h.len, h.w0, h.w1, by show 0 ≤ number + 1; omega, by show number + 1 ≤ 64; omega, h.n0, h.n1⟩ now
            · exact ⟨h, by simp⟩
          · exact ⟨h, by simp⟩
        · exact ⟨h, by simp⟩
    · exact ⟨h, by simp⟩
  · exact ⟨h, by simp⟩
theorem same_loop (l : List S23) (hl : l.length ≤ 64) : ∀ (d i F : Nat), i + d = l.length → plenumlaw49_same.l0 (F + d + 1) l (l.map conv) (i : Int) = some true := by
  intro d
  induction d with
  | zero =>
    intro i F hi
    rw [show F + 0 + 1 = F + 1 from rfl]
    unfold plenumlaw49_same.l0
    rw [if_neg (by omega)]
  | succ d ih =>
    intro i F hi
    rw [show F + (d + 1) + 1 = (F + d + 1) + 1 by omega]
    unfold plenumlaw49_same.l0
    have hr : rd_T27 (l.map conv) (i : Int) = conv (rd_T23 l (i : Int)) := by
      unfold rd_T27 rd_T23
      rw [Int.toNat_natCast, List.getD_eq_getElem?_getD, List.getD_eq_getElem?_getD, List.getElem?_map, List.getElem?_eq_getElem (by omega : i < l.length)]
      rfl
    rw [if_pos (by omega), if_pos (by omega)]
    unfold plenumlaw49_part.f
    rw [Option.bind_some, if_pos (by rw [List.length_map]; omega), hr]
    have hc : ∀ x : S23, (!(x.f0 == (conv x).f0) || (!(x.f1 == (conv x).f1) || (!(x.f2 == (conv x).f2) || (!(x.f3 == (conv x).f3) || (!(x.f4 == (conv x).f4) || (!(x.f5.toList == ((conv x).f5).toList))))))) = false := fun x => by
      show (!(x.f0 == x.f0) || (!(x.f1 == x.f1) || (!(x.f2 == x.f2) || (!(x.f3 == x.f3) || (!(x.f4 == x.f4) || (!(x.f5.toList == x.f5.toList))))))) = false
      simp
    rw [if_neg (by rw [hc]; exact Bool.false_ne_true), show wrap64 ((i : Int) + 1) = ((i + 1 : Nat) : Int) by unfold wrap64; omega]
    exact ih (i + 1) F (by omega)
theorem same_conv (l : List S23) (hl : l.length ≤ 64) : plenumlaw49_same.f 100 l (l.map conv) = some true := by
  unfold plenumlaw49_same.f
  rw [if_pos (by rw [List.length_map])]
  have := same_loop l hl l.length 0 (99 - l.length) (by omega)
  rwa [show 99 - l.length + l.length + 1 = 100 by omega] at this
end Go.Proofs.YtbgabhknmpbgiaaDoor.S
end
section
namespace Go.Proofs.YtbgabhknmpbgiaaDoor.S
open Go.RowKit Go.Proofs.YtbgabhknmpbgiaaDoorW.PrintWords Go.Proofs.YtbgabhknmpbgiaaDoorW.PrintLast Go.Proofs.YtbgabhknmpbgiaaDoorW.PrintMore
set_option linter.unusedVariables false
set_option linter.unusedSimpArgs false
def WrAt (B g : Nat) (l : List Int) (w : World) : Prop := ∃ v, w.heap[g]? = some (.cells #[v] 82 (0, 0)) ∧ B ≤ g ∧ Kd.R (Kd.int .u8) 5 w B (fun _ => True) v l
structure KeepT (w w' : World) : Prop where
  size : w.heap.size ≤ w'.heap.size
  keep : ∀ (k : Nat) cs t, w.heap[k]? = some (.cells cs t (0, 0)) → t ≠ 5 → t ≠ 82 → w'.heap[k]? = some (.cells cs t (0, 0))
theorem KeepT.trans {w w1 w2 : World} (h : KeepT w w1) (k : KeepT w1 w2) : KeepT w w2 := ⟨Nat.le_trans h.size k.size, fun j cs t hj h1 h2 => k.keep j cs t (h.keep j cs t hj h1 h2) h1 h2⟩
structure WrStep (B g : Nat) (l' : List Int) (w w1 : World) (v v1 : Value) : Prop where
  at_ : WrAt B g l' (w1.setCell ⟨g, 0, none⟩ v1)
  bel : Below B w (w1.setCell ⟨g, 0, none⟩ v1)
  keep : KeepT w (w1.setCell ⟨g, 0, none⟩ v1)
  cell : w1.cell? ⟨g, 0, none⟩ = some v
  free : w1.frozen? ⟨g, 0, none⟩ = false
theorem wr_step {B g : Nat} {l l' : List Int} {w W1 w1 : World} {v v1 : Value} (hv : w.heap[g]? = some (.cells #[v] 82 (0, 0))) (hg : B ≤ g) (ho : Kd.R (Kd.int .u8) 5 w B (fun _ => True) v l)
    (hb1 : Below w.heap.size w W1) (ho1 : Kd.R (Kd.int .u8) 5 w1 B (fun _ => True) v1 l') (hbel : Below B w w1) (hgr : W1.grownBy w1 v.ownBlock) : WrStep B g l' w w1 v v1 := by
  have hne : ∀ (k : Nat) cs t, w.heap[k]? = some (.cells cs t (0, 0)) → t ≠ 5 → some k ≠ v.ownBlock := fun k cs t hk ht => Kd.R_ne ho hk (Ne.symm ht)
  have h1 : w1.heap[g]? = some (.cells #[v] 82 (0, 0)) := blk_grown (blk_below hv hb1) hgr (hne g _ _ hv (by decide))
  have hsz : w.heap.size ≤ w1.heap.size := Nat.le_trans hb1.size hgr.size
  refine ⟨⟨v1, blk_put h1 0 v1 rfl, hg, ?_⟩, hbel.setCell hg _, ⟨by simpa [World.setCell] using hsz, fun k cs t hk t1 t2 => ?_⟩, (blk_cell h1 0).trans rfl, blk_frozen h1 0⟩
  · have ha := Kd.R_types ho1 h1 (fun q hq => by
      rcases List.mem_cons.1 hq with rfl | hq
      · decide
      · cases hq)
    exact Kd.R_mono (Kd.R_far ha (p := ⟨g, 0, none⟩) (fun _ h => h.2) v1) (fun _ _ => trivial)
  · exact blk_far (blk_grown (blk_below hk hb1) hgr (hne k _ _ hk t1)) (by rintro rfl; rw [hv] at hk; injection hk with hk; injection hk with _ hk _; exact t2 hk.symm) _
def WrPost (B g : Nat) (l' : List Int) (w : World) (r : Value) (e : Ending) (w' : World) : Prop := e = .returned r ∧ WrAt B g l' w' ∧ Below B w w' ∧ KeepT w w'
def wrMax : Nat := 1000000000000
set_option maxHeartbeats 8000000 in
set_option maxRecDepth 100000 in
theorem wr_bool_true (B g : Nat) (l : List Int) (w : World) (hB : B ≤ w.heap.size) (h : WrAt B g l w) (hl : l.length ≤ wrMax) :
    Calls Tryd.prog 42 #[.pointer (some ⟨g, 0, none⟩), .bool true] w fun e w' => WrPost B g (l ++ [2]) w (.tuple #[]) e w' := by
  obtain ⟨v, hv, hg, ho⟩ := h
  unfold wrMax at hl
  have HV := Aside0.mk hv
  have HO := Aside0.mk ho
  have HG := Aside0.mk hg
  have HS := Aside0.mk hB
  have hc := (blk_cell hv 0).trans rfl
  clear hv ho hg hB
  obtain ⟨ls, LS⟩ : ∃ ls, Aside0 (l ++ [2] = ls) := ⟨_, ⟨rfl⟩⟩
  rw [LS.out]
  go_enter Tryd.func42, Tryd.ntmps42
  go_wp2_with (at_builtin; refine Kd.R_append (Kd.int .u8) (w0 := w) B rfl (.tmp 9) (.tmp 10) 80 5 (.int .u8 0) 1 rfl Tryd.underlying80 info5 rfl (by decide) (by omega) v l 2 [.int .u8 2] (fun _ => True) (fun _ => False) rfl rfl rfl (fun _ hk => hk.elim) (fun _ _ => trivial) HO.out (Below.refl _ _) HS.out (by omega) ?_; intro v1 w9 ho hb hg hat; rw [LS.out] at ho; obtain ⟨A1, c1, e1⟩ := Kd.R_slice ho; subst e1; have HW := Aside0.mk (wr_step HV.out HG.out HO.out (Below.refl _ _) ho hb hg); have hcc := HW.out.cell; have hff := HW.out.free; clear ho hb hg hat hc)
  refine bodyPost_end (results_none rfl _ _ _) rfl ?_
  exact ⟨rfl, HW.out.at_, HW.out.bel, HW.out.keep⟩
set_option maxHeartbeats 8000000 in
set_option maxRecDepth 100000 in
theorem wr_bool_false (B g : Nat) (l : List Int) (w : World) (hB : B ≤ w.heap.size) (h : WrAt B g l w) (hl : l.length ≤ wrMax) :
    Calls Tryd.prog 42 #[.pointer (some ⟨g, 0, none⟩), .bool false] w fun e w' => WrPost B g (l ++ [1]) w (.tuple #[]) e w' := by
  obtain ⟨v, hv, hg, ho⟩ := h
  unfold wrMax at hl
  have HV := Aside0.mk hv
  have HO := Aside0.mk ho
  have HG := Aside0.mk hg
  have HS := Aside0.mk hB
  have hc := (blk_cell hv 0).trans rfl
  clear hv ho hg hB
  obtain ⟨ls, LS⟩ : ∃ ls, Aside0 (l ++ [1] = ls) := ⟨_, ⟨rfl⟩⟩
  rw [LS.out]
  go_enter Tryd.func42, Tryd.ntmps42
  go_wp2_with (at_builtin; refine Kd.R_append (Kd.int .u8) (w0 := w) B rfl (.tmp 18) (.tmp 19) 80 5 (.int .u8 0) 1 rfl Tryd.underlying80 info5 rfl (by decide) (by omega) v l 1 [.int .u8 1] (fun _ => True) (fun _ => False) rfl rfl rfl (fun _ hk => hk.elim) (fun _ _ => trivial) HO.out (Below.refl _ _) HS.out (by omega) ?_; intro v1 w9 ho hb hg hat; rw [LS.out] at ho; obtain ⟨A1, c1, e1⟩ := Kd.R_slice ho; subst e1; have HW := Aside0.mk (wr_step HV.out HG.out HO.out (Below.refl _ _) ho hb hg); have hcc := HW.out.cell; have hff := HW.out.free; clear ho hb hg hat hc)
  refine bodyPost_end (results_none rfl _ _ _) rfl ?_
  exact ⟨rfl, HW.out.at_, HW.out.bel, HW.out.keep⟩
theorem wr_bool (B g : Nat) (l : List Int) (b : Bool) (w : World) (hB : B ≤ w.heap.size) (h : WrAt B g l w) (hl : l.length ≤ wrMax) :
    Calls Tryd.prog 42 #[.pointer (some ⟨g, 0, none⟩), .bool b] w fun e w' => WrPost B g (l ++ [if b = true then 2 else 1]) w (.tuple #[]) e w' := by
  cases b
  · exact wr_bool_false B g l w hB h hl
  · exact wr_bool_true B g l w hB h hl
set_option maxHeartbeats 8000000 in
set_option maxRecDepth 100000 in
theorem wr_unsigned (k k2 : Nat) (B g : Nat) (l : List Int) (n wd : Int) (bs : List Int) (w : World) (hG : Aside0 (Glob w)) (hB : B ≤ w.heap.size) (h : WrAt B g l w) (hl : l.length + bs.length ≤ wrMax) (hw : Aside0 (codec_width.f k n = some wd)) (hn : Aside0 (codec_number.f k2 16 n wd = some bs)) :
    Calls Tryd.prog 40 #[.pointer (some ⟨g, 0, none⟩), .int .u64 n] w fun e w' => WrPost B g (l ++ bs) w (.tuple #[]) e w' := by
  obtain ⟨v, hv, hg, ho⟩ := h
  unfold wrMax at hl
  have HV := Aside0.mk hv
  have HO := Aside0.mk ho
  have HG := Aside0.mk hg
  have HS := Aside0.mk hB
  have hc := (blk_cell hv 0).trans rfl
  clear hv ho hg hB
  obtain ⟨ls, LS⟩ : ∃ ls, Aside0 (l ++ bs = ls) := ⟨_, ⟨rfl⟩⟩
  rw [LS.out]
  go_enter Tryd.func40, Tryd.ntmps40
  try go_wp2
  refine start_ (n := 13) (S := fun w' => w'.cell? ⟨g, 0, none⟩ = some v) (ds := [12]) #[Yn, Yn, Yn, Yn, Yn, Yn, Yn, Yn, Yn, Yn, Yn, Yn, Yn] (by kernel_rfl) rfl rfl (hc) (fun hHeld => ?_)
  refine pure_ (i := 0) (N := some 4) (v := ?_) (a' := ?_) #[Y, Yn, Yn, Yn, Yn, Yn, Yn, Yn, Yn, Yn, Yn, Yn, Yn] rfl rfl (by kernel_rfl) (fun _ _ _ h => h) (Or.inl ⟨by rfl, ?_⟩) ?_ ?_
  rotate_left
  · intro w'
    go_simp
    with_reducible rfl
  rotate_left
  · simp only [Act.put, List.setIfInBounds_toArray, List.set_cons_zero, List.set_cons_succ, i64_w, i32_w]
    rfl
  refine pure_ (i := 1) (N := some 5) (v := ?_) (a' := ?_) #[Y, Y, Yn, Yn, Yn, Yn, Yn, Yn, Yn, Yn, Yn, Yn, Yn] rfl rfl (by kernel_rfl) (fun _ _ _ h => h) (Or.inl ⟨by rfl, ?_⟩) ?_ ?_
  rotate_left
  · intro w'
    go_simp
    with_reducible rfl
  rotate_left
  · simp only [Act.put, List.setIfInBounds_toArray, List.set_cons_zero, List.set_cons_succ, i64_w, i32_w]
    rfl
  refine pure_ (i := 2) (N := some 6) (v := ?_) (a' := ?_) #[Y, Y, Y, Yn, Yn, Yn, Yn, Yn, Yn, Yn, Yn, Yn, Yn] rfl rfl (by kernel_rfl) (fun _ _ _ h => h) (Or.inl ⟨by rfl, ?_⟩) ?_ ?_
  rotate_left
  · intro w'
    go_simp
    with_reducible rfl
  rotate_left
  · simp only [Act.put, List.setIfInBounds_toArray, List.set_cons_zero, List.set_cons_succ, i64_w, i32_w]
    rfl
  refine pure_ (i := 3) (N := some 7) (v := ?_) (a' := ?_) #[Y, Y, Y, Y, Yn, Yn, Yn, Yn, Yn, Yn, Yn, Yn, Yn] rfl rfl (by kernel_rfl) (fun _ _ _ h => h) (Or.inl ⟨by rfl, ?_⟩) ?_ ?_
  rotate_left
  · intro w'
    go_simp
    with_reducible rfl
  rotate_left
  · simp only [Act.put, List.setIfInBounds_toArray, List.set_cons_zero, List.set_cons_succ, i64_w, i32_w]
    rfl
  refine pure_ (i := 5) (N := some 9) (v := ?_) (a' := ?_) #[Y, Y, Y, Y, Yn, Y, Yn, Yn, Yn, Yn, Yn, Yn, Yn] rfl rfl (by kernel_rfl) (fun _ _ _ h => h) (Or.inl ⟨by rfl, ?_⟩) ?_ ?_
  rotate_left
  · intro w'
    go_simp
    with_reducible rfl
  rotate_left
  · simp only [Act.put, List.setIfInBounds_toArray, List.set_cons_zero, List.set_cons_succ, i64_w, i32_w]
    rfl
  refine pure_ (i := 6) (N := some 10) (v := ?_) (a' := ?_) #[Y, Y, Y, Y, Yn, Y, Y, Yn, Yn, Yn, Yn, Yn, Yn] rfl rfl (by kernel_rfl) (fun _ _ _ h => h) (Or.inl ⟨by rfl, ?_⟩) ?_ ?_
  rotate_left
  · intro w'
    go_simp
    with_reducible rfl
  rotate_left
  · simp only [Act.put, List.setIfInBounds_toArray, List.set_cons_zero, List.set_cons_succ, i64_w, i32_w]
    rfl
  refine take_ (i := 4) (N := some 8) (v := ?_) (a' := ?_) #[Y, Y, Y, Y, Y, Y, Y, Yn, Yn, Yn, Yn, Yn, Yn] rfl rfl (by kernel_rfl) (fun _ _ _ h => h) (Or.inl ⟨by rfl, ?_⟩) hHeld ?_ ?_
  rotate_left
  · intro w' s0
    go_simp
    with_reducible rfl
  rotate_left
  · simp only [Act.put, List.setIfInBounds_toArray, List.set_cons_zero, List.set_cons_succ, i64_w, i32_w]
    rfl
  refine one_ (i := 7) (N := some 11) #[Y, Y, Y, Y, Y, Y, Y, Y, Yn, Yn, Yn, Yn, Yn] rfl rfl (by kernel_rfl) (by decide) (fun K hK => ?_)
  refine goes_ Tryd.func69 (by kernel_rfl) rfl #[.int .u64 n] (by rfl) rfl rfl (by simp only [List.map_toArray, List.map_cons, List.map_nil]; rfl) ?_
  with_reducible refine (codec_width.calls k n wd _ (Glob.below hG.out (below_drew1 (Below.refl _ _))) hw.out).mono ?_
  rintro e w7 ⟨rfl, hb7⟩
  refine ⟨_, rfl, ?_⟩
  have HB7 := Aside0.mk (below_step (below_drew1 (Below.refl w.heap.size w)) hb7)
  have hk := Aside0.mk hb7
  clear hb7
  refine hK.out _ _ (pw_cell_below hk.out hHeld) (fun hHeld => ?_)
  clear hK K
  refine norm_ (a' := ?_) ?_ ?_
  rotate_left
  · show Act.put _ (some 11) _ = _
    simp only [Act.put, List.setIfInBounds_toArray, List.set_cons_zero, List.set_cons_succ, i64_w, i32_w]
    rfl
  refine one_ (i := 8) (N := some 12) #[Y, Y, Y, Y, Y, Y, Y, Y, Y, Yn, Yn, Yn, Yn] rfl rfl (by kernel_rfl) (by decide) (fun K hK => ?_)
  refine goes_ Tryd.func68 (by kernel_rfl) rfl #[.int .u8 16, .int .u64 n, .int .i64 wd] (by rfl) rfl rfl (by simp only [List.map_toArray, List.map_cons, List.map_nil]; rfl) ?_
  with_reducible refine (codec_number.calls k2 16 n wd bs _ (Glob.below hG.out HB7.out) hn.out).mono ?_
  rintro e w8 ⟨v2, rfl, hv2, hb8⟩
  refine ⟨_, rfl, ?_⟩
  have HB8 := Aside0.mk (below_step HB7.out hb8)
  obtain ⟨A2, c2, e2⟩ := Kd.R_slice hv2
  subst e2
  have HR2 := Aside0.mk hv2
  have hk := Aside0.mk hb8
  clear hb8 hv2 HB7
  refine hK.out _ _ (pw_cell_below hk.out hHeld) (fun hHeld => ?_)
  clear hK K
  refine norm_ (a' := ?_) ?_ ?_
  rotate_left
  · show Act.put _ (some 12) _ = _
    simp only [Act.put, List.setIfInBounds_toArray, List.set_cons_zero, List.set_cons_succ, i64_w, i32_w]
    rfl
  refine one_ (i := 9) (N := some 13) #[Y, Y, Y, Y, Y, Y, Y, Y, Y, Y, Yn, Yn, Yn] rfl rfl (by kernel_rfl) (by decide) (fun K hK => ?_)
  refine Kd.R_append_rows_step (Kd.int .u8) (w0 := w) B (by rfl) (.tmp 8) (.tmp 12) 80 5 (.int .u8 0) 1 rfl Tryd.underlying80 info5 rfl (by decide) (by omega) v l bs _ _ _ (fun _ => True) (fun _ => False) rfl rfl (Kd.R_below HO.out HB8.out) (Kd.R_reads' HR2.out).2.2 (fun _ _ h => h) (fun _ h => h.elim) (fun _ _ => trivial) (HB8.out.mono HS.out) (Nat.le_trans HS.out HB8.out.size) (by omega) ?_
  intro v1 w9 ho hb hg hat
  rw [LS.out] at ho
  obtain ⟨A1, c1, e1⟩ := Kd.R_slice ho
  subst e1
  have HW := Aside0.mk (wr_step HV.out HG.out HO.out HB8.out ho hb hg)
  have hcc := HW.out.cell
  have hff := HW.out.free
  clear ho hb hg hat
  refine hK.out _ _ (hcc) (fun hHeld => ?_)
  clear hK K
  refine norm_ (a' := ?_) ?_ ?_
  rotate_left
  · show Act.put _ (some 13) _ = _
    simp only [Act.put, List.setIfInBounds_toArray, List.set_cons_zero, List.set_cons_succ, i64_w, i32_w]
    rfl
  refine pure_ (i := 10) (N := some 14) (v := ?_) (a' := ?_) #[Y, Y, Y, Y, Y, Y, Y, Y, Y, Y, Y, Yn, Yn] rfl rfl (by kernel_rfl) (fun _ _ _ h => h) (Or.inl ⟨by rfl, ?_⟩) ?_ ?_
  rotate_left
  · intro w'
    go_simp
    with_reducible rfl
  rotate_left
  · simp only [Act.put, List.setIfInBounds_toArray, List.set_cons_zero, List.set_cons_succ, i64_w, i32_w]
    rfl
  refine pure_ (i := 11) (N := some 15) (v := ?_) (a' := ?_) #[Y, Y, Y, Y, Y, Y, Y, Y, Y, Y, Y, Y, Yn] rfl rfl (by kernel_rfl) (fun _ _ _ h => h) (Or.inl ⟨by rfl, ?_⟩) ?_ ?_
  rotate_left
  · intro w'
    go_simp
    with_reducible rfl
  rotate_left
  · simp only [Act.put, List.setIfInBounds_toArray, List.set_cons_zero, List.set_cons_succ, i64_w, i32_w]
    rfl
  refine last_ (i := 12) (N := none) #[Y, Y, Y, Y, Y, Y, Y, Y, Y, Y, Y, Y, Y] rfl rfl (by kernel_rfl) (by decide) (fun K hK => ?_)
  refine skip_ (w1 := ?_) (by rfl) rfl ?_ ?_
  rotate_left
  · go_simp
    rfl
  refine hK.out _ _ ?_
  clear hK K
  refine done_ (by kernel_rfl) ?_
  try go_wp2
  refine bodyPost_end (results_none rfl _ _ _) rfl ?_
  exact ⟨rfl, HW.out.at_, HW.out.bel, HW.out.keep⟩
set_option maxHeartbeats 8000000 in
set_option maxRecDepth 100000 in
theorem wr_signed (k k2 : Nat) (B g : Nat) (l : List Int) (n wd : Int) (bs : List Int) (w : World) (hG : Aside0 (Glob w)) (hB : B ≤ w.heap.size) (h : WrAt B g l w) (hl : l.length + bs.length ≤ wrMax) (hw : Aside0 (codec_spread.f k n = some wd)) (hn : Aside0 (codec_number.f k2 32 (IntKind.u64.wrap n) wd = some bs)) :
    Calls Tryd.prog 41 #[.pointer (some ⟨g, 0, none⟩), .int .i64 n] w fun e w' => WrPost B g (l ++ bs) w (.tuple #[]) e w' := by
  obtain ⟨v, hv, hg, ho⟩ := h
  unfold wrMax at hl
  have HV := Aside0.mk hv
  have HO := Aside0.mk ho
  have HG := Aside0.mk hg
  have HS := Aside0.mk hB
  have hc := (blk_cell hv 0).trans rfl
  clear hv ho hg hB
  obtain ⟨ls, LS⟩ : ∃ ls, Aside0 (l ++ bs = ls) := ⟨_, ⟨rfl⟩⟩
  rw [LS.out]
  go_enter Tryd.func41, Tryd.ntmps41
  try go_wp2
  refine start_ (n := 14) (S := fun w' => w'.cell? ⟨g, 0, none⟩ = some v) (ds := [13]) #[Yn, Yn, Yn, Yn, Yn, Yn, Yn, Yn, Yn, Yn, Yn, Yn, Yn, Yn] (by kernel_rfl) rfl rfl (hc) (fun hHeld => ?_)
  refine pure_ (i := 0) (N := some 4) (v := ?_) (a' := ?_) #[Y, Yn, Yn, Yn, Yn, Yn, Yn, Yn, Yn, Yn, Yn, Yn, Yn, Yn] rfl rfl (by kernel_rfl) (fun _ _ _ h => h) (Or.inl ⟨by rfl, ?_⟩) ?_ ?_
  rotate_left
  · intro w'
    go_simp
    with_reducible rfl
  rotate_left
  · simp only [Act.put, List.setIfInBounds_toArray, List.set_cons_zero, List.set_cons_succ, i64_w, i32_w]
    rfl
  refine pure_ (i := 1) (N := some 5) (v := ?_) (a' := ?_) #[Y, Y, Yn, Yn, Yn, Yn, Yn, Yn, Yn, Yn, Yn, Yn, Yn, Yn] rfl rfl (by kernel_rfl) (fun _ _ _ h => h) (Or.inl ⟨by rfl, ?_⟩) ?_ ?_
  rotate_left
  · intro w'
    go_simp
    with_reducible rfl
  rotate_left
  · simp only [Act.put, List.setIfInBounds_toArray, List.set_cons_zero, List.set_cons_succ, i64_w, i32_w]
    rfl
  refine pure_ (i := 2) (N := some 6) (v := ?_) (a' := ?_) #[Y, Y, Y, Yn, Yn, Yn, Yn, Yn, Yn, Yn, Yn, Yn, Yn, Yn] rfl rfl (by kernel_rfl) (fun _ _ _ h => h) (Or.inl ⟨by rfl, ?_⟩) ?_ ?_
  rotate_left
  · intro w'
    go_simp
    with_reducible rfl
  rotate_left
  · simp only [Act.put, List.setIfInBounds_toArray, List.set_cons_zero, List.set_cons_succ, i64_w, i32_w]
    rfl
  refine pure_ (i := 3) (N := some 7) (v := ?_) (a' := ?_) #[Y, Y, Y, Y, Yn, Yn, Yn, Yn, Yn, Yn, Yn, Yn, Yn, Yn] rfl rfl (by kernel_rfl) (fun _ _ _ h => h) (Or.inl ⟨by rfl, ?_⟩) ?_ ?_
  rotate_left
  · intro w'
    go_simp
    with_reducible rfl
  rotate_left
  · simp only [Act.put, List.setIfInBounds_toArray, List.set_cons_zero, List.set_cons_succ, i64_w, i32_w]
    rfl
  refine pure_ (i := 5) (N := some 9) (v := ?_) (a' := ?_) #[Y, Y, Y, Y, Yn, Y, Yn, Yn, Yn, Yn, Yn, Yn, Yn, Yn] rfl rfl (by kernel_rfl) (fun _ _ _ h => h) (Or.inl ⟨by rfl, ?_⟩) ?_ ?_
  rotate_left
  · intro w'
    go_simp
    with_reducible rfl
  rotate_left
  · simp only [Act.put, List.setIfInBounds_toArray, List.set_cons_zero, List.set_cons_succ, i64_w, i32_w]
    rfl
  refine pure_ (i := 6) (N := some 10) (v := ?_) (a' := ?_) #[Y, Y, Y, Y, Yn, Y, Y, Yn, Yn, Yn, Yn, Yn, Yn, Yn] rfl rfl (by kernel_rfl) (fun _ _ _ h => h) (Or.inl ⟨by rfl, ?_⟩) ?_ ?_
  rotate_left
  · intro w'
    go_simp
    with_reducible rfl
  rotate_left
  · simp only [Act.put, List.setIfInBounds_toArray, List.set_cons_zero, List.set_cons_succ, i64_w, i32_w]
    rfl
  refine pure_ (i := 7) (N := some 11) (v := ?_) (a' := ?_) #[Y, Y, Y, Y, Yn, Y, Y, Y, Yn, Yn, Yn, Yn, Yn, Yn] rfl rfl (by kernel_rfl) (fun _ _ _ h => h) (Or.inl ⟨by rfl, ?_⟩) ?_ ?_
  rotate_left
  · intro w'
    go_simp
    with_reducible rfl
  rotate_left
  · simp only [Act.put, List.setIfInBounds_toArray, List.set_cons_zero, List.set_cons_succ, i64_w, i32_w]
    rfl
  refine take_ (i := 4) (N := some 8) (v := ?_) (a' := ?_) #[Y, Y, Y, Y, Y, Y, Y, Y, Yn, Yn, Yn, Yn, Yn, Yn] rfl rfl (by kernel_rfl) (fun _ _ _ h => h) (Or.inl ⟨by rfl, ?_⟩) hHeld ?_ ?_
  rotate_left
  · intro w' s0
    go_simp
    with_reducible rfl
  rotate_left
  · simp only [Act.put, List.setIfInBounds_toArray, List.set_cons_zero, List.set_cons_succ, i64_w, i32_w]
    rfl
  refine one_ (i := 8) (N := some 12) #[Y, Y, Y, Y, Y, Y, Y, Y, Y, Yn, Yn, Yn, Yn, Yn] rfl rfl (by kernel_rfl) (by decide) (fun K hK => ?_)
  refine goes_ Tryd.func70 (by kernel_rfl) rfl #[.int .i64 n] (by rfl) rfl rfl (by simp only [List.map_toArray, List.map_cons, List.map_nil]; rfl) ?_
  with_reducible refine (codec_spread.calls k n wd _ (Glob.below hG.out (below_drew1 (Below.refl _ _))) hw.out).mono ?_
  rintro e w7 ⟨rfl, ⟨nd, rfl⟩⟩
  refine ⟨_, rfl, ?_⟩
  have HB7 := Aside0.mk (pw_below_drewN (below_drew1 (Below.refl w.heap.size w)) nd)
  refine hK.out _ _ (hHeld) (fun hHeld => ?_)
  clear hK K
  refine norm_ (a' := ?_) ?_ ?_
  rotate_left
  · show Act.put _ (some 12) _ = _
    simp only [Act.put, List.setIfInBounds_toArray, List.set_cons_zero, List.set_cons_succ, i64_w, i32_w]
    rfl
  refine one_ (i := 9) (N := some 13) #[Y, Y, Y, Y, Y, Y, Y, Y, Y, Y, Yn, Yn, Yn, Yn] rfl rfl (by kernel_rfl) (by decide) (fun K hK => ?_)
  refine goes_ Tryd.func68 (by kernel_rfl) rfl #[.int .u8 32, .int .u64 (IntKind.u64.wrap n), .int .i64 wd] (by rfl) rfl rfl (by simp only [List.map_toArray, List.map_cons, List.map_nil]; rfl) ?_
  with_reducible refine (codec_number.calls k2 32 (IntKind.u64.wrap n) wd bs _ (Glob.below hG.out HB7.out) hn.out).mono ?_
  rintro e w8 ⟨v2, rfl, hv2, hb8⟩
  refine ⟨_, rfl, ?_⟩
  have HB8 := Aside0.mk (below_step HB7.out hb8)
  obtain ⟨A2, c2, e2⟩ := Kd.R_slice hv2
  subst e2
  have HR2 := Aside0.mk hv2
  have hk := Aside0.mk hb8
  clear hb8 hv2 HB7
  refine hK.out _ _ (pw_cell_below hk.out hHeld) (fun hHeld => ?_)
  clear hK K
  refine norm_ (a' := ?_) ?_ ?_
  rotate_left
  · show Act.put _ (some 13) _ = _
    simp only [Act.put, List.setIfInBounds_toArray, List.set_cons_zero, List.set_cons_succ, i64_w, i32_w]
    rfl
  refine one_ (i := 10) (N := some 14) #[Y, Y, Y, Y, Y, Y, Y, Y, Y, Y, Y, Yn, Yn, Yn] rfl rfl (by kernel_rfl) (by decide) (fun K hK => ?_)
  refine Kd.R_append_rows_step (Kd.int .u8) (w0 := w) B (by rfl) (.tmp 8) (.tmp 13) 80 5 (.int .u8 0) 1 rfl Tryd.underlying80 info5 rfl (by decide) (by omega) v l bs _ _ _ (fun _ => True) (fun _ => False) rfl rfl (Kd.R_below HO.out HB8.out) (Kd.R_reads' HR2.out).2.2 (fun _ _ h => h) (fun _ h => h.elim) (fun _ _ => trivial) (HB8.out.mono HS.out) (Nat.le_trans HS.out HB8.out.size) (by omega) ?_
  intro v1 w9 ho hb hg hat
  rw [LS.out] at ho
  obtain ⟨A1, c1, e1⟩ := Kd.R_slice ho
  subst e1
  have HW := Aside0.mk (wr_step HV.out HG.out HO.out HB8.out ho hb hg)
  have hcc := HW.out.cell
  have hff := HW.out.free
  clear ho hb hg hat
  refine hK.out _ _ (hcc) (fun hHeld => ?_)
  clear hK K
  refine norm_ (a' := ?_) ?_ ?_
  rotate_left
  · show Act.put _ (some 14) _ = _
    simp only [Act.put, List.setIfInBounds_toArray, List.set_cons_zero, List.set_cons_succ, i64_w, i32_w]
    rfl
  refine pure_ (i := 11) (N := some 15) (v := ?_) (a' := ?_) #[Y, Y, Y, Y, Y, Y, Y, Y, Y, Y, Y, Y, Yn, Yn] rfl rfl (by kernel_rfl) (fun _ _ _ h => h) (Or.inl ⟨by rfl, ?_⟩) ?_ ?_
  rotate_left
  · intro w'
    go_simp
    with_reducible rfl
  rotate_left
  · simp only [Act.put, List.setIfInBounds_toArray, List.set_cons_zero, List.set_cons_succ, i64_w, i32_w]
    rfl
  refine pure_ (i := 12) (N := some 16) (v := ?_) (a' := ?_) #[Y, Y, Y, Y, Y, Y, Y, Y, Y, Y, Y, Y, Y, Yn] rfl rfl (by kernel_rfl) (fun _ _ _ h => h) (Or.inl ⟨by rfl, ?_⟩) ?_ ?_
  rotate_left
  · intro w'
    go_simp
    with_reducible rfl
  rotate_left
  · simp only [Act.put, List.setIfInBounds_toArray, List.set_cons_zero, List.set_cons_succ, i64_w, i32_w]
    rfl
  refine last_ (i := 13) (N := none) #[Y, Y, Y, Y, Y, Y, Y, Y, Y, Y, Y, Y, Y, Y] rfl rfl (by kernel_rfl) (by decide) (fun K hK => ?_)
  refine skip_ (w1 := ?_) (by rfl) rfl ?_ ?_
  rotate_left
  · go_simp
    rfl
  refine hK.out _ _ ?_
  clear hK K
  refine done_ (by kernel_rfl) ?_
  try go_wp2
  refine bodyPost_end (results_none rfl _ _ _) rfl ?_
  exact ⟨rfl, HW.out.at_, HW.out.bel, HW.out.keep⟩
theorem Glob.base {B : Nat} {w w1 : World} (hG : Glob w) (h0 : 0 < B) (hb : Below B w w1) : Glob w1 := by
  obtain ⟨t, h⟩ := hG
  exact ⟨t, (hb.block 0 h0).trans h⟩
set_option maxHeartbeats 8000000 in
set_option maxRecDepth 100000 in
theorem wr_list (k k2 : Nat) (B g : Nat) (l : List Int) (n wd : Int) (bs : List Int) (w : World) (hG : Aside0 (Glob w)) (h0 : 0 < B) (hB : B ≤ w.heap.size) (h : WrAt B g l w) (hl : l.length + 1 + bs.length ≤ wrMax) (hr : 0 ≤ n ∧ n ≤ 65535) (hw' : Aside0 (codec_width.f k n = some wd)) (hn' : Aside0 (codec_number.f k2 16 n wd = some bs)) :
    Calls Tryd.prog 39 #[.pointer (some ⟨g, 0, none⟩), .int .i64 n] w fun e w' => WrPost B g (l ++ [64] ++ bs) w (.int .i64 0) e w' := by
  have hwn : IntKind.u64.wrap n = n := by
    show n % 18446744073709551616 = n
    omega
  have hw : Aside0 (codec_width.f k (IntKind.u64.wrap n) = some wd) := ⟨by rw [hwn]; exact hw'.out⟩
  have hn : Aside0 (codec_number.f k2 16 (IntKind.u64.wrap n) wd = some bs) := ⟨by rw [hwn]; exact hn'.out⟩
  clear hw' hn' hwn
  obtain ⟨v, hv, hg, ho⟩ := h
  unfold wrMax at hl
  have HV := Aside0.mk hv
  have HO := Aside0.mk ho
  have HG := Aside0.mk hg
  have HS := Aside0.mk hB
  have hc := (blk_cell hv 0).trans rfl
  clear hv ho hg hB
  obtain ⟨ls, LS⟩ : ∃ ls, Aside0 (l ++ [64] = ls) := ⟨_, ⟨rfl⟩⟩
  rw [LS.out]
  have hl2 : ls.length + bs.length ≤ wrMax := by rw [← LS.out]; simp [wrMax]; omega
  have hb0 : decide (n < 0) = false := decide_eq_false (by omega)
  have hb1 : decide (65535 < n) = false := decide_eq_false (by omega)
  have H0 := Aside0.mk h0
  clear hr h0
  go_enter Tryd.func39, Tryd.ntmps39
  go_wp2_with (first | (at_builtin; refine Kd.R_append (Kd.int .u8) (w0 := w) B rfl (.tmp 15) (.tmp 16) 80 5 (.int .u8 0) 1 rfl Tryd.underlying80 info5 rfl (by decide) (by omega) v l 64 [.int .u8 64] (fun _ => True) (fun _ => False) rfl rfl rfl (fun _ hk => hk.elim) (fun _ _ => trivial) HO.out (Below.refl _ _) HS.out (by omega) ?_; intro v1 w9 ho hb hg hat; rw [LS.out] at ho; obtain ⟨A1, c1, e1⟩ := Kd.R_slice ho; subst e1; have HW := Aside0.mk (wr_step HV.out HG.out HO.out (Below.refl _ _) ho hb hg); have hcc := HW.out.cell; have hff := HW.out.free; clear ho hb hg hat hc) | (go_at_call 40; (with_reducible refine (wr_unsigned k k2 B g ls _ wd bs _ ⟨Glob.base hG.out H0.out HW.out.bel⟩ (Nat.le_trans HS.out HW.out.keep.size) HW.out.at_ hl2 hw hn).mono ?_); rintro e w5 ⟨rfl, ha, hb, hk⟩; have HA := Aside0.mk ha; have HBB := Aside0.mk (HW.out.bel.trans hb); have HKK := Aside0.mk (HW.out.keep.trans hk); clear ha hb hk))
  go_ret
  exact ⟨rfl, HA.out, HBB.out, HKK.out⟩
theorem wr_step2 {B g : Nat} {l l' : List Int} {w w1 : World} {v v1 : Value} (hv : w.heap[g]? = some (.cells #[v] 82 (0, 0))) (hg : B ≤ g) (ho : Kd.R (Kd.int .u8) 5 w B (fun _ => True) v l)
    (ho1 : Kd.R (Kd.int .u8) 5 w1 B (fun _ => True) v1 l') (hbel : Below B w w1) (hgr : w.grownBy w1 v.ownBlock) : WrStep B g l' w w1 v v1 := wr_step hv hg ho (Below.refl _ _) ho1 hbel hgr
theorem R_of_own {w : World} {B : Nat} {v : Value} {l : List Int} (h : w.ownsRow B 5 1 v l.length (nums .u8 l)) : Kd.R (Kd.int .u8) 5 w B (fun _ => True) v l := by
  refine ⟨fun _ _ => trivial, nums .u8 l, h, ?_⟩
  refine ⟨by show (nums .u8 l).length = l.length * 1; simp [nums], fun j p hj => ?_⟩
  obtain ⟨hl, hp⟩ := List.getElem?_eq_some_iff.1 hj
  have hlt : j < (nums .u8 l).length := by simpa [nums] using hl
  show List.take 1 (List.drop (j * 1) (nums .u8 l)) = [.int .u8 p]
  rw [Nat.mul_one, List.drop_eq_getElem_cons hlt]
  simp [nums, hp]
set_option maxHeartbeats 8000000 in
set_option maxRecDepth 100000 in
theorem wr_text (k k2 : Nat) (B g : Nat) (l : List Int) (s : ByteArray) (wd : Int) (bs : List Int) (w : World) (hG : Aside0 (Glob w)) (h0 : 0 < B) (hB : B ≤ w.heap.size) (h : WrAt B g l w) (hl : l.length + 1 + bs.length + s.size ≤ wrMax) (hr : s.size ≤ 65535) (hw : Aside0 (codec_width.f k (s.size : Int) = some wd)) (hn : Aside0 (codec_number.f k2 16 (s.size : Int) wd = some bs)) :
    Calls Tryd.prog 43 #[.pointer (some ⟨g, 0, none⟩), .string s] w fun e w' => WrPost B g (l ++ [48] ++ bs ++ bytesOf s) w (.int .i64 0) e w' := by
  obtain ⟨v, hv, hg, ho⟩ := h
  unfold wrMax at hl
  have HV := Aside0.mk hv
  have HO := Aside0.mk ho
  have HG := Aside0.mk hg
  have HS := Aside0.mk hB
  have hc := (blk_cell hv 0).trans rfl
  clear hv ho hg hB
  obtain ⟨ls, LS⟩ : ∃ ls, Aside0 (l ++ [48] = ls) := ⟨_, ⟨rfl⟩⟩
  rw [LS.out]
  obtain ⟨l2, L2⟩ : ∃ l2, Aside0 (ls ++ bs = l2) := ⟨_, ⟨rfl⟩⟩
  rw [L2.out]
  obtain ⟨l3, L3⟩ : ∃ l3, Aside0 (l2 ++ bytesOf s = l3) := ⟨_, ⟨rfl⟩⟩
  rw [L3.out]
  have hl2 : ls.length + bs.length ≤ wrMax := by rw [← LS.out]; simp [wrMax]; omega
  have hl3 := Aside0.mk (show l2.length + s.size ≤ 140737488355328 by rw [← L2.out, ← LS.out]; simp; omega)
  have hb0 : decide (65535 < (s.size : Int)) = false := decide_eq_false (by omega)
  have hb1 : decide (65535 < s.size) = false := decide_eq_false (by omega)
  have H0 := Aside0.mk h0
  clear hr h0
  go_enter Tryd.func43, Tryd.ntmps43
  go_wp2_with (first | (at_builtin; refine Kd.R_append (Kd.int .u8) (w0 := w) B rfl (.tmp 12) (.tmp 13) 80 5 (.int .u8 0) 1 rfl Tryd.underlying80 info5 rfl (by decide) (by omega) v l 48 [.int .u8 48] (fun _ => True) (fun _ => False) rfl rfl rfl (fun _ hk => hk.elim) (fun _ _ => trivial) HO.out (Below.refl _ _) HS.out (by omega) ?_; intro v1 w9 ho hb hg hat; rw [LS.out] at ho; obtain ⟨A1, c1, e1⟩ := Kd.R_slice ho; subst e1; have HW := Aside0.mk (wr_step HV.out HG.out HO.out (Below.refl _ _) ho hb hg); have hcc := HW.out.cell; have hff := HW.out.free; clear ho hb hg hat hc) | ((go_at_call 40; (with_reducible refine (wr_unsigned k k2 B g ls _ wd bs _ ⟨Glob.base hG.out H0.out HW.out.bel⟩ (Nat.le_trans HS.out HW.out.keep.size) HW.out.at_ hl2 hw hn).mono ?_); rintro e w5 ⟨rfl, ha, hb, hk⟩; have HA := Aside0.mk ha; have HBB := Aside0.mk (HW.out.bel.trans hb); have HKK := Aside0.mk (HW.out.keep.trans hk); clear ha hb hk); rw [L2.out] at HA; obtain ⟨v2, hv2, _, ho2⟩ := HA.out; obtain ⟨A2, c2, e2⟩ := Kd.R_slice ho2; subst e2; have HV2 := Aside0.mk hv2; have HO2 := Aside0.mk ho2; have HN2 : Aside0 (w5.ownsRow B 5 1 (.slice A2 l2.length c2) l2.length (nums .u8 l2)) := ⟨Kd.own_of_R ho2⟩; have hc2 := (blk_cell hv2 0).trans rfl; clear hv2 ho2 HA) | (refine print_append_str (w0 := w5) B rfl (.tmp 26) (.tmp 27) 80 9 5 rfl Tryd.underlying80 Tryd.underlying9 info5 (.slice A2 l2.length c2) l2 s ?h1 ?h2 ?aO ?aB ?aS ?aL ?_; (case h1 => rfl); (case h2 => rfl); (case aO => exact HN2.out); (case aB => exact Below.refl _ _); (case aS => exact Nat.le_trans HS.out HKK.out.size); (case aL => exact hl3.out); intro v3 w9 ho hb hg; have ho' := R_of_own ho; rw [L3.out] at ho'; obtain ⟨A3, c3, e3⟩ := Kd.R_slice ho'; subst e3; have HW3 := Aside0.mk (wr_step2 HV2.out HG.out HO2.out ho' hb hg); have hcc3 := HW3.out.cell; have hff3 := HW3.out.free; clear ho ho' hb hg hc2))
  go_ret
  exact ⟨rfl, HW3.out.at_, HBB.out.trans HW3.out.bel, HKK.out.trans HW3.out.keep⟩
set_option maxHeartbeats 8000000 in
set_option maxRecDepth 100000 in
theorem wr_data (B g : Nat) (l : List Int) (w : World) (h : WrAt B g l w) :
    Calls Tryd.prog 44 #[.pointer (some ⟨g, 0, none⟩)] w fun e w' => e = .returned (.string (strOfNums l)) ∧ w' = w := by
  obtain ⟨v, hv, hg, ho⟩ := h
  obtain ⟨A1, c1, e1⟩ := Kd.R_slice ho
  subst e1
  have hc := (blk_cell hv 0).trans rfl
  have hcv := own_string (w := w) (P := Tryd.prog) Tryd.underlying80 Tryd.underlying5 Tryd.underlying9 (Kd.own_of_R ho)
  clear hv ho hg
  go_enter Tryd.func44, Tryd.ntmps44
  go_wp2
  go_ret
  exact ⟨rfl, rfl⟩
end Go.Proofs.YtbgabhknmpbgiaaDoor.S
end
section
namespace Go.Proofs.YtbgabhknmpbgiaaDoor.S
open Go.RowKit Go.Proofs.YtbgabhknmpbgiaaDoor.Pure Go.Proofs.YtbgabhknmpbgiaaDoorW.PrintWords Go.Proofs.YtbgabhknmpbgiaaDoorW.PrintLast Go.Proofs.YtbgabhknmpbgiaaDoorW.PrintMore
set_option linter.unusedVariables false
set_option linter.unusedSimpArgs false
attribute [local go_sem] max2_int min2_int max_two min_two
def encB (x : S23) : List Int := [] ++ [64] ++ uB 6 ++ uB x.f0 ++ uB x.f1 ++ sB x.f2 ++ [if x.f3 = true then 2 else 1] ++ uB x.f4 ++ [48] ++ uB (x.f5.size : Int) ++ bytesOf x.f5
structure Ok23 (x : S23) : Prop where
  k0 : 0 ≤ x.f0
  k1 : x.f0 ≤ 3
  i0 : 0 ≤ x.f1
  i1 : x.f1 ≤ 255
  n0 : -1 ≤ x.f2
  n1 : x.f2 ≤ 63
  w0 : 0 ≤ x.f4
  w1 : x.f4 ≤ 16
  t : x.f5.size ≤ 400
def EncPost (w : World) (s : ByteArray) (e0 : Int) (e : Ending) (w' : World) : Prop := e = .returned (.tuple #[.string s, .int .i64 e0]) ∧ Below w.heap.size w w'
set_option maxHeartbeats 16000000 in
set_option maxRecDepth 100000 in
theorem encode_calls (k : Nat) (x : S23) (e0 : Int) (w : World) (hG : Glob w) (hc : segment_Check.f k x.f0 x.f1 x.f2 x.f3 x.f4 x.f5 = some e0) (hr : e0 = 0 → Ok23 x) :
    Calls Tryd.prog 13 #[.agg #[.int .i64 x.f0, .int .i64 x.f1, .int .i64 x.f2, .bool x.f3, .int .i64 x.f4, .string x.f5]] w fun e w' => EncPost w (if e0 = 0 then strOfNums (encB x) else ⟨#[]⟩) e0 e w' := by
  have HG := Aside0.mk hG
  have HCK := Aside0.mk hc
  have H0 := Aside0.mk (show 0 < w.heap.size by obtain ⟨t, h⟩ := hG; exact blk_lt h)
  clear hG hc
  by_cases z : e0 = 0
  · have zb : (e0 != 0) = false := by rw [z]; rfl
    obtain ⟨hk0, hk1, hi0, hi1, hn0, hn1, hw0, hw1, ht⟩ := hr z
    rw [if_pos z]
    have HZ := Aside0.mk z
    have HN6 := Aside0.mk (numUn 0 6 (by omega) (by omega))
    have HD6 := Aside0.mk (width_eq 0 6 (by omega) (by omega))
    have HNk := Aside0.mk (numUn 0 x.f0 (by omega) (by omega))
    have HDk := Aside0.mk (width_eq 0 x.f0 (by omega) (by omega))
    have HNi := Aside0.mk (numUn 0 x.f1 (by omega) (by omega))
    have HDi := Aside0.mk (width_eq 0 x.f1 (by omega) (by omega))
    have HNw := Aside0.mk (numUn 0 x.f4 (by omega) (by omega))
    have HDw := Aside0.mk (width_eq 0 x.f4 (by omega) (by omega))
    have HNt := Aside0.mk (numUn 0 (x.f5.size : Int) (by omega) (by omega))
    have HDt := Aside0.mk (width_eq 0 (x.f5.size : Int) (by omega) (by omega))
    have HNn := Aside0.mk (numSg 0 x.f2 (by omega) (by omega))
    have HDn := Aside0.mk (spread_eq 0 x.f2 (by omega) (by omega))
    obtain ⟨L1, HL1⟩ : ∃ l, Aside0 ([] ++ [64] ++ uB 6 = l) := ⟨_, ⟨rfl⟩⟩
    obtain ⟨L2, HL2⟩ : ∃ l, Aside0 (L1 ++ uB x.f0 = l) := ⟨_, ⟨rfl⟩⟩
    obtain ⟨L3, HL3⟩ : ∃ l, Aside0 (L2 ++ uB x.f1 = l) := ⟨_, ⟨rfl⟩⟩
    obtain ⟨L4, HL4⟩ : ∃ l, Aside0 (L3 ++ sB x.f2 = l) := ⟨_, ⟨rfl⟩⟩
    obtain ⟨L5, HL5⟩ : ∃ l, Aside0 (L4 ++ [if x.f3 = true then 2 else 1] = l) := ⟨_, ⟨rfl⟩⟩
    obtain ⟨L6, HL6⟩ : ∃ l, Aside0 (L5 ++ uB x.f4 = l) := ⟨_, ⟨rfl⟩⟩
    obtain ⟨L7, HL7⟩ : ∃ l, Aside0 (L6 ++ [48] ++ uB (x.f5.size : Int) ++ bytesOf x.f5 = l) := ⟨_, ⟨rfl⟩⟩
    have b6 := uB_len 6
    have bk := uB_len x.f0
    have bi := uB_len x.f1
    have bn := sB_len x.f2 (by omega) (by omega)
    have bw := uB_len x.f4
    have bt_ := uB_len (x.f5.size : Int)
    have e1 : L1.length = 1 + (uB 6).length := by rw [← HL1.out]; simp; omega
    have e2 : L2.length = L1.length + (uB x.f0).length := by rw [← HL2.out, List.length_append]
    have e3 : L3.length = L2.length + (uB x.f1).length := by rw [← HL3.out, List.length_append]
    have e4 : L4.length = L3.length + (sB x.f2).length := by rw [← HL4.out, List.length_append]
    have e5 : L5.length = L4.length + 1 := by rw [← HL5.out, List.length_append]; rfl
    have e6 : L6.length = L5.length + (uB x.f4).length := by rw [← HL6.out, List.length_append]
    have HW1 := Aside0.mk (show ([] : List Int).length + 1 + (uB 6).length ≤ wrMax by simp only [List.length_nil]; unfold wrMax; omega)
    have HW2 := Aside0.mk (show L1.length + (uB x.f0).length ≤ wrMax by unfold wrMax; omega)
    have HW3 := Aside0.mk (show L2.length + (uB x.f1).length ≤ wrMax by unfold wrMax; omega)
    have HW4 := Aside0.mk (show L3.length + (sB x.f2).length ≤ wrMax by unfold wrMax; omega)
    have HW5 := Aside0.mk (show L4.length ≤ wrMax by unfold wrMax; omega)
    have HW6 := Aside0.mk (show L5.length + (uB x.f4).length ≤ wrMax by unfold wrMax; omega)
    have HW7 := Aside0.mk (show L6.length + 1 + (uB (x.f5.size : Int)).length + x.f5.size ≤ wrMax by unfold wrMax; omega)
    have HT := Aside0.mk (show x.f5.size ≤ 65535 by omega)
    have HR6 := Aside0.mk (show (0 : Int) ≤ 6 ∧ (6 : Int) ≤ 65535 by decide)
    have HE := Aside0.mk (show encB x = L7 by unfold encB; rw [HL1.out, HL2.out, HL3.out, HL4.out, HL5.out, HL6.out, HL7.out])
    rw [HE.out]
    have wk : IntKind.u64.wrap x.f0 = x.f0 := by show x.f0 % 18446744073709551616 = _; omega
    have wi : IntKind.u64.wrap x.f1 = x.f1 := by show x.f1 % 18446744073709551616 = _; omega
    have ww : IntKind.u64.wrap x.f4 = x.f4 := by show x.f4 % 18446744073709551616 = _; omega
    clear hk0 hk1 hi0 hi1 hn0 hn1 hw0 hw1 ht b6 bk bi bn bw bt_ e1 e2 e3 e4 e5 e6 z hr
    go_enter Tryd.func13, Tryd.ntmps13
    go_wp2_with (first | ((with_reducible refine gate_dst (N := 1) rfl ?_); refine box_event ?hg (N := 1) ?hd (cs := #[.int .i64 x.f0, .int .i64 x.f1, .int .i64 x.f2, .bool x.f3, .int .i64 x.f4, .string x.f5]) (t := 23) ?hr ?_; (case hd => rfl); (case hg => rfl); (case hr => first | (go_simp; done) | (go_simp; rfl)); intro gp hgp wa hbox hb; have HPa := Aside0.mk hbox; have HBa := Aside0.mk hb; have y0 := (blk_cell HPa.out 0).trans rfl; have y1 := (blk_cell HPa.out 1).trans rfl; have y2 := (blk_cell HPa.out 2).trans rfl; have y3 := (blk_cell HPa.out 3).trans rfl; have y4 := (blk_cell HPa.out 4).trans rfl; have y5 := (blk_cell HPa.out 5).trans rfl; clear hb hbox hgp) | (go_at_call 16; (with_reducible refine (segment_Check.calls k x.f0 x.f1 x.f2 x.f3 x.f4 x.f5 e0 _ (Glob.below HG.out HBa.out) HCK.out).mono ?_); rintro e wb ⟨rfl, hb⟩; have HBb := Aside0.mk (below_step HBa.out hb); have HPb := Aside0.mk (blk_below HPa.out hb); clear hb y0 y1 y2 y3 y4 y5) | ((with_reducible refine gate_dst (N := 12) rfl ?_); refine box_event ?hg (N := 12) ?hd (cs := #[.slice none 0 0]) (t := 82) ?hr ?_; (case hd => rfl); (case hg => rfl); (case hr => first | (go_simp; done) | (go_simp; rfl)); intro g hg w0 hbox hb; have HA0 : Aside0 (WrAt w.heap.size g [] w0) := ⟨⟨_, hbox, by rw [hg]; exact HBb.out.size, Kd.R_nil _ _ _ _ _⟩⟩; have HB0 := Aside0.mk (below_step HBb.out hb); have HP0 := Aside0.mk (blk_below HPb.out hb); have HZ0 := Aside0.mk HB0.out.size; have y0 := (blk_cell HP0.out 0).trans rfl; have y1 := (blk_cell HP0.out 1).trans rfl; have y2 := (blk_cell HP0.out 2).trans rfl; have y3 := (blk_cell HP0.out 3).trans rfl; have y4 := (blk_cell HP0.out 4).trans rfl; have y5 := (blk_cell HP0.out 5).trans rfl; clear hb hbox hg) | (go_at_call 39; (with_reducible refine (wr_list 1 10 w.heap.size g [] 6 _ _ _ ⟨Glob.base HG.out H0.out HB0.out⟩ H0.out HZ0.out HA0.out HW1.out HR6.out HD6 HN6).mono ?_); rintro e w1 ⟨rfl, ha, hb, hk⟩; rw [HL1.out] at ha; have HA1 := Aside0.mk ha; have HB1 := Aside0.mk (HB0.out.trans hb); have HP1 := Aside0.mk (hk.keep _ _ _ HP0.out (by decide) (by decide)); have HZ1 := Aside0.mk (Nat.le_trans HZ0.out hk.size); clear ha hb hk y0 y1 y2 y3 y4 y5; have y0 := (blk_cell HP1.out 0).trans rfl; have y1 := (blk_cell HP1.out 1).trans rfl; have y2 := (blk_cell HP1.out 2).trans rfl; have y3 := (blk_cell HP1.out 3).trans rfl; have y4 := (blk_cell HP1.out 4).trans rfl; have y5 := (blk_cell HP1.out 5).trans rfl) | (go_at_call 40; (with_reducible refine (wr_unsigned 1 10 w.heap.size g L1 x.f0 _ _ _ ⟨Glob.base HG.out H0.out HB1.out⟩ HZ1.out HA1.out HW2.out HDk HNk).mono ?_); rintro e w2 ⟨rfl, ha, hb, hk⟩; rw [HL2.out] at ha; have HA2 := Aside0.mk ha; have HB2 := Aside0.mk (HB1.out.trans hb); have HP2 := Aside0.mk (hk.keep _ _ _ HP1.out (by decide) (by decide)); have HZ2 := Aside0.mk (Nat.le_trans HZ1.out hk.size); clear ha hb hk y0 y1 y2 y3 y4 y5; have y0 := (blk_cell HP2.out 0).trans rfl; have y1 := (blk_cell HP2.out 1).trans rfl; have y2 := (blk_cell HP2.out 2).trans rfl; have y3 := (blk_cell HP2.out 3).trans rfl; have y4 := (blk_cell HP2.out 4).trans rfl; have y5 := (blk_cell HP2.out 5).trans rfl) | (go_at_call 40; (with_reducible refine (wr_unsigned 1 10 w.heap.size g L2 x.f1 _ _ _ ⟨Glob.base HG.out H0.out HB2.out⟩ HZ2.out HA2.out HW3.out HDi HNi).mono ?_); rintro e w3 ⟨rfl, ha, hb, hk⟩; rw [HL3.out] at ha; have HA3 := Aside0.mk ha; have HB3 := Aside0.mk (HB2.out.trans hb); have HP3 := Aside0.mk (hk.keep _ _ _ HP2.out (by decide) (by decide)); have HZ3 := Aside0.mk (Nat.le_trans HZ2.out hk.size); clear ha hb hk y0 y1 y2 y3 y4 y5; have y0 := (blk_cell HP3.out 0).trans rfl; have y1 := (blk_cell HP3.out 1).trans rfl; have y2 := (blk_cell HP3.out 2).trans rfl; have y3 := (blk_cell HP3.out 3).trans rfl; have y4 := (blk_cell HP3.out 4).trans rfl; have y5 := (blk_cell HP3.out 5).trans rfl) | (go_at_call 41; (with_reducible refine (wr_signed 1 10 w.heap.size g L3 x.f2 _ _ _ ⟨Glob.base HG.out H0.out HB3.out⟩ HZ3.out HA3.out HW4.out HDn HNn).mono ?_); rintro e w4 ⟨rfl, ha, hb, hk⟩; rw [HL4.out] at ha; have HA4 := Aside0.mk ha; have HB4 := Aside0.mk (HB3.out.trans hb); have HP4 := Aside0.mk (hk.keep _ _ _ HP3.out (by decide) (by decide)); have HZ4 := Aside0.mk (Nat.le_trans HZ3.out hk.size); clear ha hb hk y0 y1 y2 y3 y4 y5; have y0 := (blk_cell HP4.out 0).trans rfl; have y1 := (blk_cell HP4.out 1).trans rfl; have y2 := (blk_cell HP4.out 2).trans rfl; have y3 := (blk_cell HP4.out 3).trans rfl; have y4 := (blk_cell HP4.out 4).trans rfl; have y5 := (blk_cell HP4.out 5).trans rfl) | (go_at_call 42; (with_reducible refine (wr_bool w.heap.size g L4 x.f3 _ HZ4.out HA4.out HW5.out).mono ?_); rintro e w5 ⟨rfl, ha, hb, hk⟩; rw [HL5.out] at ha; have HA5 := Aside0.mk ha; have HB5 := Aside0.mk (HB4.out.trans hb); have HP5 := Aside0.mk (hk.keep _ _ _ HP4.out (by decide) (by decide)); have HZ5 := Aside0.mk (Nat.le_trans HZ4.out hk.size); clear ha hb hk y0 y1 y2 y3 y4 y5; have y0 := (blk_cell HP5.out 0).trans rfl; have y1 := (blk_cell HP5.out 1).trans rfl; have y2 := (blk_cell HP5.out 2).trans rfl; have y3 := (blk_cell HP5.out 3).trans rfl; have y4 := (blk_cell HP5.out 4).trans rfl; have y5 := (blk_cell HP5.out 5).trans rfl) | (go_at_call 40; (with_reducible refine (wr_unsigned 1 10 w.heap.size g L5 x.f4 _ _ _ ⟨Glob.base HG.out H0.out HB5.out⟩ HZ5.out HA5.out HW6.out HDw HNw).mono ?_); rintro e w6 ⟨rfl, ha, hb, hk⟩; rw [HL6.out] at ha; have HA6 := Aside0.mk ha; have HB6 := Aside0.mk (HB5.out.trans hb); have HP6 := Aside0.mk (hk.keep _ _ _ HP5.out (by decide) (by decide)); have HZ6 := Aside0.mk (Nat.le_trans HZ5.out hk.size); clear ha hb hk y0 y1 y2 y3 y4 y5; have y0 := (blk_cell HP6.out 0).trans rfl; have y1 := (blk_cell HP6.out 1).trans rfl; have y2 := (blk_cell HP6.out 2).trans rfl; have y3 := (blk_cell HP6.out 3).trans rfl; have y4 := (blk_cell HP6.out 4).trans rfl; have y5 := (blk_cell HP6.out 5).trans rfl) | (go_at_call 43; (with_reducible refine (wr_text 1 10 w.heap.size g L6 x.f5 _ _ _ ⟨Glob.base HG.out H0.out HB6.out⟩ H0.out HZ6.out HA6.out HW7.out HT.out HDt HNt).mono ?_); rintro e w7 ⟨rfl, ha, hb, hk⟩; rw [HL7.out] at ha; have HA7 := Aside0.mk ha; have HB7 := Aside0.mk (HB6.out.trans hb); have HP7 := Aside0.mk (hk.keep _ _ _ HP6.out (by decide) (by decide)); have HZ7 := Aside0.mk (Nat.le_trans HZ6.out hk.size); clear ha hb hk y0 y1 y2 y3 y4 y5; have y0 := (blk_cell HP7.out 0).trans rfl; have y1 := (blk_cell HP7.out 1).trans rfl; have y2 := (blk_cell HP7.out 2).trans rfl; have y3 := (blk_cell HP7.out 3).trans rfl; have y4 := (blk_cell HP7.out 4).trans rfl; have y5 := (blk_cell HP7.out 5).trans rfl) | (go_at_call 44; (with_reducible refine (wr_data w.heap.size g L7 _ HA7.out).mono ?_); rintro e w8 ⟨rfl, rfl⟩))
    go_ret2
    exact ⟨by rw [HZ.out]; rfl, HB7.out⟩
  · have zb : (e0 != 0) = true := bne_iff_ne.mpr z
    rw [if_neg z]
    clear z hr
    go_enter Tryd.func13, Tryd.ntmps13
    go_wp2_with (first | ((with_reducible refine gate_dst (N := 1) rfl ?_); refine box_event ?hg (N := 1) ?hd (cs := #[.int .i64 x.f0, .int .i64 x.f1, .int .i64 x.f2, .bool x.f3, .int .i64 x.f4, .string x.f5]) (t := 23) ?hr ?_; (case hd => rfl); (case hg => rfl); (case hr => first | (go_simp; done) | (go_simp; rfl)); intro gp hgp wa hbox hb; have HPa := Aside0.mk hbox; have HBa := Aside0.mk hb; have y0 := (blk_cell HPa.out 0).trans rfl; have y1 := (blk_cell HPa.out 1).trans rfl; have y2 := (blk_cell HPa.out 2).trans rfl; have y3 := (blk_cell HPa.out 3).trans rfl; have y4 := (blk_cell HPa.out 4).trans rfl; have y5 := (blk_cell HPa.out 5).trans rfl; clear hb hbox hgp) | (go_at_call 16; (with_reducible refine (segment_Check.calls k x.f0 x.f1 x.f2 x.f3 x.f4 x.f5 e0 _ (Glob.below HG.out HBa.out) HCK.out).mono ?_); rintro e wb ⟨rfl, hb⟩; have HBb := Aside0.mk (below_step HBa.out hb); have HPb := Aside0.mk (blk_below HPa.out hb); clear hb y0 y1 y2 y3 y4 y5))
    go_ret2
    exact ⟨rfl, HBb.out⟩
end Go.Proofs.YtbgabhknmpbgiaaDoor.S
end
section
namespace Go.Proofs.YtbgabhknmpbgiaaDoor.S
open Go.RowKit Go.Proofs.YtbgabhknmpbgiaaDoor.Pure Go.Proofs.YtbgabhknmpbgiaaDoorW.PrintWords Go.Proofs.YtbgabhknmpbgiaaDoorW.PrintLast Go.Proofs.YtbgabhknmpbgiaaDoorW.PrintMore
set_option linter.unusedVariables false
def segment_Encode.f (a0_0 : Int) (a0_1 : Int) (a0_2 : Int) (a0_3 : Bool) (a0_4 : Int) (a0_5 : ByteArray) : Option (ByteArray × Int) :=
  (segment_Check.f 40 a0_0 a0_1 a0_2 a0_3 a0_4 a0_5).bind fun e0 => if e0 = 0 then (if 0 ≤ a0_0 ∧ a0_0 ≤ 3 ∧ 0 ≤ a0_1 ∧ a0_1 ≤ 255 ∧ -1 ≤ a0_2 ∧ a0_2 ≤ 63 ∧ 0 ≤ a0_4 ∧ a0_4 ≤ 16 ∧ a0_5.size ≤ 400 then some (strOfNums (encB ⟨a0_0, a0_1, a0_2, a0_3, a0_4, a0_5⟩), e0) else none) else some (⟨#[]⟩, e0)
theorem segment_Encode.calls (a0_0 : Int) (a0_1 : Int) (a0_2 : Int) (a0_3 : Bool) (a0_4 : Int) (a0_5 : ByteArray) (r1 : ByteArray) (r2 : Int) (w : World) (hG : Glob w) (h : segment_Encode.f a0_0 a0_1 a0_2 a0_3 a0_4 a0_5 = some (r1, r2)) :
    Calls Tryd.prog 13 #[.agg #[.int .i64 a0_0, .int .i64 a0_1, .int .i64 a0_2, .bool a0_3, .int .i64 a0_4, .string a0_5]] w fun e w' => e = .returned (.tuple #[.string r1, .int .i64 r2]) ∧ Below w.heap.size w w' := by
  unfold segment_Encode.f at h
  obtain ⟨e0, hc, h⟩ := Option.bind_eq_some_iff.mp h
  by_cases z : e0 = 0
  · rw [if_pos z] at h
    by_cases q : 0 ≤ a0_0 ∧ a0_0 ≤ 3 ∧ 0 ≤ a0_1 ∧ a0_1 ≤ 255 ∧ -1 ≤ a0_2 ∧ a0_2 ≤ 63 ∧ 0 ≤ a0_4 ∧ a0_4 ≤ 16 ∧ a0_5.size ≤ 400
    · rw [if_pos q] at h
      obtain ⟨q0, q1, q2, q3, q4, q5, q6, q7, q8⟩ := q
      injection h with h
      injection h with h1 h2
      refine (encode_calls 40 ⟨a0_0, a0_1, a0_2, a0_3, a0_4, a0_5⟩ e0 w hG hc (fun _ => ⟨q0, q1, q2, q3, q4, q5, q6, q7, q8⟩)).mono ?_
      rintro e w' ⟨he, hb⟩
      rw [if_pos z, h1, h2] at he
      exact ⟨he, hb⟩
    · rw [if_neg q] at h
      cases h
  · rw [if_neg z] at h
    injection h with h
    injection h with h1 h2
    refine (encode_calls 40 ⟨a0_0, a0_1, a0_2, a0_3, a0_4, a0_5⟩ e0 w hG hc (fun z' => absurd z' z)).mono ?_
    rintro e w' ⟨he, hb⟩
    rw [if_neg z, h1, h2] at he
    exact ⟨he, hb⟩
end Go.Proofs.YtbgabhknmpbgiaaDoor.S
end
section
namespace Go.Proofs.YtbgabhknmpbgiaaDoor.S
open Go.RowKit Go.Proofs.YtbgabhknmpbgiaaDoorW.PrintWords Go.Proofs.YtbgabhknmpbgiaaDoorW.PrintLast Go.Proofs.YtbgabhknmpbgiaaDoorW.PrintMore
attribute [local go_sem] max2_int min2_int max_two min_two max_three min_three max_four min_four
set_option linter.unusedVariables false
set_option linter.unusedSimpArgs false
def IsS119 (w0 W : World) (g : Nat) (f0 : ByteArray) (f1 : Int) (f2 : Int) : Prop := W.heap[g]? = some (.cells #[.string f0, .int .i64 f1, .int .i64 f2] 119 (0, 0)) ∧ w0.heap.size ≤ g
theorem IsS119.grown {w0 W : World} {g : Nat} {f0 : ByteArray} {f1 : Int} {f2 : Int} {W1 : World} {row : Option Nat} (h : IsS119 w0 W g f0 f1 f2) (hw : W.grownBy W1 row) (hne : some g ≠ row) : IsS119 w0 W1 g f0 f1 f2 := by
  obtain ⟨hb, hg⟩ := h
  exact ⟨blk_grown hb hw hne, hg⟩
theorem IsS119.below {w0 W : World} {g : Nat} {f0 : ByteArray} {f1 : Int} {f2 : Int} {W1 : World} (h : IsS119 w0 W g f0 f1 f2) (hw : Below W.heap.size W W1) : IsS119 w0 W1 g f0 f1 f2 := h.grown (grown_of_below hw none) (by simp)
theorem IsS119.drewN {w0 W : World} {g : Nat} {f0 : ByteArray} {f1 : Int} {f2 : Int} (h : IsS119 w0 W g f0 f1 f2) (m : Nat) : IsS119 w0 (W.drewN m) g f0 f1 f2 := h
theorem IsS119.drew {w0 W : World} {g : Nat} {f0 : ByteArray} {f1 : Int} {f2 : Int} (h : IsS119 w0 W g f0 f1 f2) : IsS119 w0 W.drew g f0 f1 f2 := h
theorem IsS119.ge {w0 W : World} {g : Nat} {f0 : ByteArray} {f1 : Int} {f2 : Int} (h : IsS119 w0 W g f0 f1 f2) : w0.heap.size ≤ g := by
  obtain ⟨hb, hg⟩ := h
  exact hg
theorem cellS119_0 {W : World} {g : Nat} {f0 : ByteArray} {f1 : Int} {f2 : Int} (h : W.heap[g]? = some (.cells #[.string f0, .int .i64 f1, .int .i64 f2] 119 (0, 0))) : W.cell? ⟨g, 0, none⟩ = some (.string f0) := (blk_cell h 0).trans rfl
theorem cellS119_1 {W : World} {g : Nat} {f0 : ByteArray} {f1 : Int} {f2 : Int} (h : W.heap[g]? = some (.cells #[.string f0, .int .i64 f1, .int .i64 f2] 119 (0, 0))) : W.cell? ⟨g, 1, none⟩ = some (.int .i64 f1) := (blk_cell h 1).trans rfl
theorem IsS119.set_1 {w0 W : World} {g : Nat} {f0 : ByteArray} {f1 : Int} {f2 : Int} (h : IsS119 w0 W g f0 f1 f2) (x : Int) : IsS119 w0 (W.setCell ⟨g, 1, none⟩ (.int .i64 x)) g f0 x f2 := by
  obtain ⟨hb, hg⟩ := h
  exact ⟨by simpa using blk_set hb 1 (.int .i64 x), hg⟩
theorem cellS119_2 {W : World} {g : Nat} {f0 : ByteArray} {f1 : Int} {f2 : Int} (h : W.heap[g]? = some (.cells #[.string f0, .int .i64 f1, .int .i64 f2] 119 (0, 0))) : W.cell? ⟨g, 2, none⟩ = some (.int .i64 f2) := (blk_cell h 2).trans rfl
theorem IsS119.set_2 {w0 W : World} {g : Nat} {f0 : ByteArray} {f1 : Int} {f2 : Int} (h : IsS119 w0 W g f0 f1 f2) (x : Int) : IsS119 w0 (W.setCell ⟨g, 2, none⟩ (.int .i64 x)) g f0 f1 x := by
  obtain ⟨hb, hg⟩ := h
  exact ⟨by simpa using blk_set hb 2 (.int .i64 x), hg⟩
def codec_NewReader.f (a0 : ByteArray) : Option (ByteArray × Int × Int) := some (a0, 0, 0)
set_option maxHeartbeats 8000000 in
set_option maxRecDepth 100000 in
theorem codec_NewReader.calls (a0 : ByteArray) (r1 : ByteArray) (r2 : Int) (r3 : Int) (w0 w : World) (hG : Glob w0) (hB : Below w0.heap.size w0 w) (h : codec_NewReader.f a0 = some (r1, r2, r3)) :
    Calls Tryd.prog 45 #[.string a0] w fun e w' => ∃ g_ : Nat, e = .returned (.pointer (some ⟨g_, 0, none⟩)) ∧ IsS119 w0 w' g_ r1 r2 r3 ∧ Below w0.heap.size w0 w' ∧ Below w.heap.size w w' := by
  have hu119 := Tryd.underlying119
  have HG := Aside0.mk hG
  clear hG
  have HBW := Aside0.mk (Below.refl w.heap.size w)
  have HW0 := Aside0.mk hB.size
  have HB := Aside0.mk hB
  clear hB
  have H : (some (a0, 0, 0)) = some (r1, r2, r3) := h
  clear h
  simp only [Option.some.injEq, Prod.mk.injEq] at H
  obtain ⟨rfl, rfl, rfl⟩ := H
  go_enter Tryd.func45, Tryd.ntmps45
  go_wp2_with (first | ((with_reducible refine gate_dst (N := 5) rfl ?_); refine box_event ?hg (N := 5) ?hd (cs := #[.string a0, .int .i64 0, .int .i64 0]) (t := 119) ?hr ?_; (case hd => rfl); (case hg => rfl); (case hr => first | (go_simp; done) | (go_simp; rfl)); intro gb123 hg w2 hbox hb; have n0_ := Aside0.mk (below_step HBW.out hb); have n1_ := Aside0.mk (below_step (by repeat (first | (with_reducible first | exact HB.out | apply below_alloc | apply pw_below_drewN | apply below_drew1) | exact HB.out)) hb); have n2_ := Aside0.mk (hbox); have n3_ := Aside0.mk ((by rw [hg]; exact (below_size (by repeat (first | (with_reducible first | exact HBW.out | apply below_alloc | apply pw_below_drewN | apply below_drew1) | exact HBW.out))) : w.heap.size ≤ gb123)); have n4_ := Aside0.mk ((Nat.le_trans HW0.out (by rw [hg]; exact (below_size (by repeat (first | (with_reducible first | exact HBW.out | apply below_alloc | apply pw_below_drewN | apply below_drew1) | exact HBW.out))) : w.heap.size ≤ gb123) : w0.heap.size ≤ gb123)); clear HBW; clear HB; have HBW := n0_; have HB := n1_; have BK123 := n2_; have GW123 := n3_; have GE123 := n4_; clear n0_ n1_ n2_ n3_ n4_; clear hb hbox hg))
  go_ret
  exact ⟨_, rfl, (show IsS119 w0 _ gb123 a0 0 0 from ⟨by (with_reducible repeat (first | refine blk_drewN ?_ _ | refine blk_drew ?_ | refine blk_alloc ?_ _)); exact BK123.out, GE123.out⟩), by repeat (first | (with_reducible first | exact HB.out | apply below_alloc | apply pw_below_drewN | apply below_drew1 | refine below_set ?_ GE123.out) | exact HB.out), by repeat (first | (with_reducible first | exact HBW.out | apply below_alloc | apply pw_below_drewN | apply below_drew1 | refine below_set ?_ GW123.out) | exact HBW.out)⟩
end Go.Proofs.YtbgabhknmpbgiaaDoor.S
end
section
namespace Go.Proofs.YtbgabhknmpbgiaaDoor.S
open Go.RowKit Go.Proofs.YtbgabhknmpbgiaaDoorW.PrintWords Go.Proofs.YtbgabhknmpbgiaaDoorW.PrintLast Go.Proofs.YtbgabhknmpbgiaaDoorW.PrintMore
attribute [local go_sem] max2_int min2_int max_two min_two max_three min_three max_four min_four
set_option linter.unusedVariables false
set_option linter.unusedSimpArgs false
def codec_Reader_List.f (k : Nat) (s0_0 : ByteArray) (s0_1 : Int) (s0_2 : Int) : Option (Int × ByteArray × Int × Int) := if s0_2 = 0 then ((codec_list.f k s0_0 s0_1).bind fun bt131 => (if bt131.2.2 = true then (some (bt131.1, s0_0, bt131.2.1, s0_2)) else (some (0, s0_0, s0_1, 2)))) else (some (0, s0_0, s0_1, s0_2))
def codec_Reader_List.T71004 : Bool × List (List Nat × List Nat) := (true, [([], []), ([], []), ([1], [1]), ([2], [2]), ([3], [3]), ([], []), ([5], [5]), ([6], [6]), ([7], [7]), ([0, 4, 8], [0, 4, 8]), ([9], [9]), ([10], [10]), ([10], [10]), ([10], [10]), ([11, 9, 0, 1, 2, 3, 4, 5, 6, 7, 8, 9, 10, 11], [11]), ([12, 14, 0, 1, 2, 3, 4, 5, 6, 7, 8, 9, 10, 11, 12, 14], [12]), ([13, 15, 0, 1, 2, 3, 4, 5, 6, 7, 8, 9, 10, 11, 12, 13, 14, 15], [13])])
def codec_Reader_List.B71004 : List Nat := [0, 0, 2, 6, 14, 0, 32, 96, 224, 511, 1023, 2047, 2047, 2047, 4095, 24575, 65535]
theorem codec_Reader_List.tab71004 : rtab .any (opsOf Tryd.f71 4) = codec_Reader_List.T71004 := by kernel_rfl
theorem codec_Reader_List.bits71004 : waitsOk codec_Reader_List.T71004.2 codec_Reader_List.B71004 = true := by kernel_rfl
set_option maxHeartbeats 8000000 in
set_option maxRecDepth 100000 in
theorem codec_Reader_List.calls (k : Nat) (g : Nat) (s0_0 : ByteArray) (s0_1 : Int) (s0_2 : Int) (r1 : Int) (r2 : ByteArray) (r3 : Int) (r4 : Int) (w0 w : World) (hG : Glob w0) (hI : IsS119 w0 w g s0_0 s0_1 s0_2) (hB : Below w0.heap.size w0 w) (h : codec_Reader_List.f k s0_0 s0_1 s0_2 = some (r1, r2, r3, r4)) :
    Calls Tryd.prog 46 #[.pointer (some ⟨g, 0, none⟩)] w fun e w' => e = .returned (.int .i64 r1) ∧ IsS119 w0 w' g r2 r3 r4 ∧ Below w0.heap.size w0 w' ∧ KeepBut w w' g none := by
  have hmf_ : ∀ (fn : Fn) (first cap : Array Value) (w : World), (Instr.makeFunc fn first cap).run Tryd.prog w = .ok (.func fn first cap) w := fun _ _ _ _ => rfl
  have HG := Aside0.mk hG
  clear hG
  have HI0 := Aside0.mk hI
  have HK := Aside0.mk (KeepBut.refl w g none)
  have HL := Aside0.mk hB.size
  clear hI
  have HW0 := Aside0.mk hB.size
  have HB := Aside0.mk hB
  clear hB
  have H : (if s0_2 = 0 then ((codec_list.f k s0_0 s0_1).bind fun bt131 => (if bt131.2.2 = true then (some (bt131.1, s0_0, bt131.2.1, s0_2)) else (some (0, s0_0, s0_1, 2)))) else (some (0, s0_0, s0_1, s0_2))) = some (r1, r2, r3, r4) := h
  clear h
  by_cases c2 : s0_2 = 0
  · rw [if_pos c2] at H
    have c2b0 : (s0_2 == 0) = true := beq_iff_eq.mpr c2
    have c2b1 : (s0_2 != 0) = false := bne_eq_false_iff_eq.mpr c2
    clear c2
    replace H := Option.bind_eq_some_iff.mp H
    obtain ⟨⟨t131, t132, t133⟩, A30, H⟩ := H
    replace H : (if t133 = true then (some (t131, s0_0, t132, s0_2)) else (some (0, s0_0, s0_1, 2))) = some (r1, r2, r3, r4) := H
    have A3 := Aside0.mk A30
    clear A30
    by_cases c4 : t133 = true
    · subst c4
      have H1 : (some (t131, s0_0, t132, s0_2)) = some (r1, r2, r3, r4) := by rw [if_pos rfl] at H; exact H
      clear H
      have H := H1
      clear H1
      simp only [Option.some.injEq, Prod.mk.injEq] at H
      obtain ⟨rfl, rfl, rfl, rfl⟩ := H
      obtain ⟨HGz5, hgz5⟩ := HI0.out
      have hcz5_0 := cellS119_0 HGz5
      have hcz5_1 := cellS119_1 HGz5
      have hcz5_2 := cellS119_2 HGz5
      have hfz5_0 := blk_frozen HGz5 0
      have hfz5_1 := blk_frozen HGz5 1
      have hfz5_2 := blk_frozen HGz5 2
      clear HGz5 hgz5
      go_enter Tryd.func46, Tryd.ntmps46
      try go_wp2_with (first | (go_at_call 71; go_in) | ((try simp only [Exit.inBlock, Exit.then]); refine bodyPost_end (results_none rfl _ _ _) rfl ?_; simp only []; go_at_K))
      have n0_ := Aside0.mk (IsS119.drew HI0.out)
      have n1_ := Aside0.mk (keep_drew HK.out)
      have n2_ := Aside0.mk (below_drew1 HB.out)
      clear HI0
      clear HK
      clear HB
      have HI0 := n0_
      have HK := n1_
      have HB := n2_
      clear n0_ n1_ n2_
      refine start_ (n := 17) (S := fun w' => w'.cell? ⟨g, 0, none⟩ = some (.string s0_0) ∧ w'.cell? ⟨g, 1, none⟩ = some (.int .i64 s0_1) ∧ w'.cell? ⟨g, 2, none⟩ = some (.int .i64 s0_2)) (ds := []) #[Yn, Yn, Yn, Yn, Yn, Yn, Yn, Yn, Yn, Yn, Yn, Yn, Yn, Yn, Yn, Yn, Yn] (by kernel_rfl) rfl rfl ⟨(blk_cell (Aside0.mk HI0.out.1).out 0).trans rfl, (blk_cell (Aside0.mk HI0.out.1).out 1).trans rfl, (blk_cell (Aside0.mk HI0.out.1).out 2).trans rfl⟩ (fun hHeld => ?_); refine with_tabW codec_Reader_List.tab71004 codec_Reader_List.bits71004 (fun HT_ HW_ => ?_)
      generalize w.drew = w6 at HI0 HK HB hHeld ⊢
      refine pure_ (i := 0) (N := some 16) (v := ?_) (a' := ?_) #[Y, Yn, Yn, Yn, Yn, Yn, Yn, Yn, Yn, Yn, Yn, Yn, Yn, Yn, Yn, Yn, Yn] rfl rfl (any_of HT_.out (by kernel_rfl)) (fun _ _ _ h => h) (Or.inl ⟨by rfl, ?_⟩) ?_ ?_
      rotate_left
      · intro w'
        go_simp
        with_reducible rfl
      rotate_left
      · simp only [Act.put, List.setIfInBounds_toArray, List.set_cons_zero, List.set_cons_succ, i64_w, i32_w]
        rfl
      refine pure_ (i := 1) (N := some 17) (v := ?_) (a' := ?_) #[Y, Y, Yn, Yn, Yn, Yn, Yn, Yn, Yn, Yn, Yn, Yn, Yn, Yn, Yn, Yn, Yn] rfl rfl (any_of HT_.out (by kernel_rfl)) (fun _ _ _ h => h) (Or.inl ⟨by rfl, ?_⟩) ?_ ?_
      rotate_left
      · intro w'
        go_simp
        with_reducible rfl
      rotate_left
      · simp only [Act.put, List.setIfInBounds_toArray, List.set_cons_zero, List.set_cons_succ, i64_w, i32_w]
        rfl
      refine pure_ (i := 2) (N := some 18) (v := ?_) (a' := ?_) #[Y, Y, Y, Yn, Yn, Yn, Yn, Yn, Yn, Yn, Yn, Yn, Yn, Yn, Yn, Yn, Yn] rfl rfl (any_of HT_.out (by kernel_rfl)) (fun _ _ _ h => h) (Or.inl ⟨by rfl, ?_⟩) ?_ ?_
      rotate_left
      · intro w'
        go_simp
        with_reducible rfl
      rotate_left
      · simp only [Act.put, List.setIfInBounds_toArray, List.set_cons_zero, List.set_cons_succ, i64_w, i32_w]
        rfl
      refine pure_ (i := 3) (N := some 19) (v := ?_) (a' := ?_) #[Y, Y, Y, Y, Yn, Yn, Yn, Yn, Yn, Yn, Yn, Yn, Yn, Yn, Yn, Yn, Yn] rfl rfl (any_of HT_.out (by kernel_rfl)) (fun _ _ _ h => h) (Or.inl ⟨by rfl, ?_⟩) ?_ ?_
      rotate_left
      · intro w'
        go_simp
        with_reducible rfl
      rotate_left
      · simp only [Act.put, List.setIfInBounds_toArray, List.set_cons_zero, List.set_cons_succ, i64_w, i32_w]
        rfl
      refine pure_ (i := 5) (N := some 21) (v := ?_) (a' := ?_) #[Y, Y, Y, Y, Yn, Y, Yn, Yn, Yn, Yn, Yn, Yn, Yn, Yn, Yn, Yn, Yn] rfl rfl (any_of HT_.out (by kernel_rfl)) (fun _ _ _ h => h) (Or.inl ⟨by rfl, ?_⟩) ?_ ?_
      rotate_left
      · intro w'
        go_simp
        with_reducible rfl
      rotate_left
      · simp only [Act.put, List.setIfInBounds_toArray, List.set_cons_zero, List.set_cons_succ, i64_w, i32_w]
        rfl
      refine pure_ (i := 6) (N := some 22) (v := ?_) (a' := ?_) #[Y, Y, Y, Y, Yn, Y, Y, Yn, Yn, Yn, Yn, Yn, Yn, Yn, Yn, Yn, Yn] rfl rfl (any_of HT_.out (by kernel_rfl)) (fun _ _ _ h => h) (Or.inl ⟨by rfl, ?_⟩) ?_ ?_
      rotate_left
      · intro w'
        go_simp
        with_reducible rfl
      rotate_left
      · simp only [Act.put, List.setIfInBounds_toArray, List.set_cons_zero, List.set_cons_succ, i64_w, i32_w]
        rfl
      refine pure_ (i := 7) (N := some 23) (v := ?_) (a' := ?_) #[Y, Y, Y, Y, Yn, Y, Y, Y, Yn, Yn, Yn, Yn, Yn, Yn, Yn, Yn, Yn] rfl rfl (any_of HT_.out (by kernel_rfl)) (fun _ _ _ h => h) (Or.inl ⟨by rfl, ?_⟩) ?_ ?_
      rotate_left
      · intro w'
        go_simp
        with_reducible rfl
      rotate_left
      · simp only [Act.put, List.setIfInBounds_toArray, List.set_cons_zero, List.set_cons_succ, i64_w, i32_w]
        rfl
      refine take_ (i := 4) (N := some 20) (v := ?_) (a' := ?_) #[Y, Y, Y, Y, Y, Y, Y, Y, Yn, Yn, Yn, Yn, Yn, Yn, Yn, Yn, Yn] rfl rfl (take_ofW HT_.out HW_.out (by kernel_rfl)) (fun _ _ _ h => h) (Or.inl ⟨by rfl, ?_⟩) hHeld ?_ ?_
      rotate_left
      · rintro w' ⟨s0, s1, s2⟩
        go_simp
        with_reducible rfl
      rotate_left
      · simp only [Act.put, List.setIfInBounds_toArray, List.set_cons_zero, List.set_cons_succ, i64_w, i32_w]
        rfl
      refine take_ (i := 8) (N := some 24) (v := ?_) (a' := ?_) #[Y, Y, Y, Y, Y, Y, Y, Y, Y, Yn, Yn, Yn, Yn, Yn, Yn, Yn, Yn] rfl rfl (take_ofW HT_.out HW_.out (by kernel_rfl)) (fun _ _ _ h => h) (Or.inl ⟨by rfl, ?_⟩) hHeld ?_ ?_
      rotate_left
      · rintro w' ⟨s0, s1, s2⟩
        go_simp
        with_reducible rfl
      rotate_left
      · simp only [Act.put, List.setIfInBounds_toArray, List.set_cons_zero, List.set_cons_succ, i64_w, i32_w]
        rfl
      refine one_ (i := 9) (N := some 25) #[Y, Y, Y, Y, Y, Y, Y, Y, Y, Y, Yn, Yn, Yn, Yn, Yn, Yn, Yn] rfl rfl (one_of HT_.out (by kernel_rfl)) (by decide) (fun K hK => ?_)
      refine goesT_ Tryd.func72 (by kernel_rfl) rfl #[.string s0_0, .int .i64 s0_1] (by rfl) rfl rfl rfl (by (try simp only [List.map_toArray, List.map_cons, List.map_nil]); first | done | rfl | (simp only [List.length_drop, List.length_take]; rfl)) ?_
      with_reducible refine (codec_list.calls k s0_0 s0_1 t131 t132 true _ ?side99  A3.out).mono ?_
      (case side99 => first | exact HG.out | exact Glob.below HG.out (by repeat (first | (with_reducible first | exact HB.out | apply below_alloc | apply pw_below_drewN | apply below_drew1 | refine below_set ?_ (IsS119.ge HI0.out)) | exact HB.out)))
      rintro e w7 ⟨rfl, hb⟩
      refine ⟨_, rfl, ?_⟩
      have n0_ := Aside0.mk (IsS119.below (by repeat (first | (with_reducible first | exact HI0.out | apply IsS119.alloc | apply IsS119.drewN | apply IsS119.drew | apply IsS119.set_0 | apply IsS119.set_1 | apply IsS119.set_2) | exact HI0.out)) hb)
      have n1_ := Aside0.mk (KeepBut.trans (by repeat (first | (with_reducible first | exact HK.out | apply KeepBut.set_ | apply keep_drewN | apply keep_drew | apply keep_alloc) | exact HK.out)) (KeepBut.of_below hb g none) (.inl rfl))
      have n2_ := Aside0.mk (below_step (by repeat (first | (with_reducible first | exact HB.out | apply below_alloc | apply pw_below_drewN | apply below_drew1 | refine below_set ?_ (IsS119.ge HI0.out)) | exact HB.out)) hb)
      clear HI0
      clear HK
      clear HB
      have HI0 := n0_
      have HK := n1_
      have HB := n2_
      clear n0_ n1_ n2_
      (try clear hb)
      (try clear hb2)
      (try clear hk)
      (try clear hi)
      refine hK.out _ _ ⟨(blk_cell (Aside0.mk HI0.out.1).out 0).trans rfl, (blk_cell (Aside0.mk HI0.out.1).out 1).trans rfl, (blk_cell (Aside0.mk HI0.out.1).out 2).trans rfl⟩ (fun hHeld => ?_)
      clear hK K
      refine norm_ (a' := ?_) ?_ ?_
      rotate_left
      · show Act.put _ (some 25) _ = _
        simp only [Act.put, List.setIfInBounds_toArray, List.set_cons_zero, List.set_cons_succ, i64_w, i32_w]
        rfl
      refine pure_ (i := 10) (N := some 15) (v := ?_) (a' := ?_) #[Y, Y, Y, Y, Y, Y, Y, Y, Y, Y, Y, Yn, Yn, Yn, Yn, Yn, Yn] rfl rfl (any_of HT_.out (by kernel_rfl)) (fun _ _ _ h => h) (Or.inl ⟨by rfl, ?_⟩) ?_ ?_
      rotate_left
      · intro w'
        go_simp
        with_reducible rfl
      rotate_left
      · simp only [Act.put, List.setIfInBounds_toArray, List.set_cons_zero, List.set_cons_succ, i64_w, i32_w]
        rfl
      refine pure_ (i := 11) (N := some 26) (v := ?_) (a' := ?_) #[Y, Y, Y, Y, Y, Y, Y, Y, Y, Y, Y, Y, Yn, Yn, Yn, Yn, Yn] rfl rfl (any_of HT_.out (by kernel_rfl)) (fun _ _ _ h => h) (Or.inl ⟨by rfl, ?_⟩) ?_ ?_
      rotate_left
      · intro w'
        go_simp
        with_reducible rfl
      rotate_left
      · simp only [Act.put, List.setIfInBounds_toArray, List.set_cons_zero, List.set_cons_succ, i64_w, i32_w]
        rfl
      refine pure_ (i := 12) (N := some 27) (v := ?_) (a' := ?_) #[Y, Y, Y, Y, Y, Y, Y, Y, Y, Y, Y, Y, Y, Yn, Yn, Yn, Yn] rfl rfl (any_of HT_.out (by kernel_rfl)) (fun _ _ _ h => h) (Or.inl ⟨by rfl, ?_⟩) ?_ ?_
      rotate_left
      · intro w'
        go_simp
        with_reducible rfl
      rotate_left
      · simp only [Act.put, List.setIfInBounds_toArray, List.set_cons_zero, List.set_cons_succ, i64_w, i32_w]
        rfl
      refine pure_ (i := 13) (N := some 28) (v := ?_) (a' := ?_) #[Y, Y, Y, Y, Y, Y, Y, Y, Y, Y, Y, Y, Y, Y, Yn, Yn, Yn] rfl rfl (any_of HT_.out (by kernel_rfl)) (fun _ _ _ h => h) (Or.inl ⟨by rfl, ?_⟩) ?_ ?_
      rotate_left
      · intro w'
        go_simp
        with_reducible rfl
      rotate_left
      · simp only [Act.put, List.setIfInBounds_toArray, List.set_cons_zero, List.set_cons_succ, i64_w, i32_w]
        rfl
      refine pure_ (i := 14) (N := some 6) (v := ?_) (a' := ?_) #[Y, Y, Y, Y, Y, Y, Y, Y, Y, Y, Y, Y, Y, Y, Y, Yn, Yn] rfl rfl (any_of HT_.out (by kernel_rfl)) (fun _ _ _ h => h) (Or.inl ⟨by rfl, ?_⟩) ?_ ?_
      rotate_left
      · intro w'
        go_simp
        with_reducible rfl
      rotate_left
      · simp only [Act.put, List.setIfInBounds_toArray, List.set_cons_zero, List.set_cons_succ, i64_w, i32_w]
        rfl
      refine pure_ (i := 15) (N := some 7) (v := ?_) (a' := ?_) #[Y, Y, Y, Y, Y, Y, Y, Y, Y, Y, Y, Y, Y, Y, Y, Y, Yn] rfl rfl (any_of HT_.out (by kernel_rfl)) (fun _ _ _ h => h) (Or.inl ⟨by rfl, ?_⟩) ?_ ?_
      rotate_left
      · intro w'
        go_simp
        with_reducible rfl
      rotate_left
      · simp only [Act.put, List.setIfInBounds_toArray, List.set_cons_zero, List.set_cons_succ, i64_w, i32_w]
        rfl
      refine pure_ (i := 16) (N := some 8) (v := ?_) (a' := ?_) #[Y, Y, Y, Y, Y, Y, Y, Y, Y, Y, Y, Y, Y, Y, Y, Y, Y] rfl rfl (any_of HT_.out (by kernel_rfl)) (fun _ _ _ h => h) (Or.inl ⟨by rfl, ?_⟩) ?_ ?_
      rotate_left
      · intro w'
        go_simp
        with_reducible rfl
      rotate_left
      · simp only [Act.put, List.setIfInBounds_toArray, List.set_cons_zero, List.set_cons_succ, i64_w, i32_w]
        rfl
      refine done_ (done_of HT_.out (by kernel_rfl)) ?_
      obtain ⟨HGz8, hgz8⟩ := HI0.out
      have hcz8_0 := cellS119_0 HGz8
      have hcz8_1 := cellS119_1 HGz8
      have hcz8_2 := cellS119_2 HGz8
      have hfz8_0 := blk_frozen HGz8 0
      have hfz8_1 := blk_frozen HGz8 1
      have hfz8_2 := blk_frozen HGz8 2
      clear HGz8 hgz8
      try go_wp2_with (first | (go_at_call 71; go_in) | ((try simp only [Exit.inBlock, Exit.then]); refine bodyPost_end (results_none rfl _ _ _) rfl ?_; simp only []; go_at_K))
      go_ret
      exact ⟨by first | rfl | (simp [errW_none, errW_some] <;> rfl) | (simp [*, errW_none, errW_some] <;> rfl), by repeat (first | (with_reducible first | exact HI0.out | apply IsS119.alloc | apply IsS119.drewN | apply IsS119.drew | apply IsS119.set_0 | apply IsS119.set_1 | apply IsS119.set_2) | exact HI0.out), by repeat (first | (with_reducible first | exact HB.out | apply below_alloc | apply pw_below_drewN | apply below_drew1 | refine below_set ?_ (IsS119.ge HI0.out)) | exact HB.out), by repeat (first | (with_reducible first | exact HK.out | apply KeepBut.set_ | apply keep_drewN | apply keep_drew | apply keep_alloc) | exact HK.out)⟩
    · replace c4 := Bool.eq_false_iff.mpr c4
      subst c4
      have H1 : (some (0, s0_0, s0_1, 2)) = some (r1, r2, r3, r4) := by rw [if_neg (show ¬ (false = true) by decide)] at H; exact H
      clear H
      have H := H1
      clear H1
      simp only [Option.some.injEq, Prod.mk.injEq] at H
      obtain ⟨rfl, rfl, rfl, rfl⟩ := H
      obtain ⟨HGz9, hgz9⟩ := HI0.out
      have hcz9_0 := cellS119_0 HGz9
      have hcz9_1 := cellS119_1 HGz9
      have hcz9_2 := cellS119_2 HGz9
      have hfz9_0 := blk_frozen HGz9 0
      have hfz9_1 := blk_frozen HGz9 1
      have hfz9_2 := blk_frozen HGz9 2
      clear HGz9 hgz9
      go_enter Tryd.func46, Tryd.ntmps46
      try go_wp2_with (first | (go_at_call 71; go_in) | ((try simp only [Exit.inBlock, Exit.then]); refine bodyPost_end (results_none rfl _ _ _) rfl ?_; simp only []; go_at_K))
      have n0_ := Aside0.mk (IsS119.drew HI0.out)
      have n1_ := Aside0.mk (keep_drew HK.out)
      have n2_ := Aside0.mk (below_drew1 HB.out)
      clear HI0
      clear HK
      clear HB
      have HI0 := n0_
      have HK := n1_
      have HB := n2_
      clear n0_ n1_ n2_
      refine start_ (n := 17) (S := fun w' => w'.cell? ⟨g, 0, none⟩ = some (.string s0_0) ∧ w'.cell? ⟨g, 1, none⟩ = some (.int .i64 s0_1) ∧ w'.cell? ⟨g, 2, none⟩ = some (.int .i64 s0_2)) (ds := []) #[Yn, Yn, Yn, Yn, Yn, Yn, Yn, Yn, Yn, Yn, Yn, Yn, Yn, Yn, Yn, Yn, Yn] (by kernel_rfl) rfl rfl ⟨(blk_cell (Aside0.mk HI0.out.1).out 0).trans rfl, (blk_cell (Aside0.mk HI0.out.1).out 1).trans rfl, (blk_cell (Aside0.mk HI0.out.1).out 2).trans rfl⟩ (fun hHeld => ?_); refine with_tabW codec_Reader_List.tab71004 codec_Reader_List.bits71004 (fun HT_ HW_ => ?_)
      generalize w.drew = w10 at HI0 HK HB hHeld ⊢
      refine pure_ (i := 0) (N := some 16) (v := ?_) (a' := ?_) #[Y, Yn, Yn, Yn, Yn, Yn, Yn, Yn, Yn, Yn, Yn, Yn, Yn, Yn, Yn, Yn, Yn] rfl rfl (any_of HT_.out (by kernel_rfl)) (fun _ _ _ h => h) (Or.inl ⟨by rfl, ?_⟩) ?_ ?_
      rotate_left
      · intro w'
        go_simp
        with_reducible rfl
      rotate_left
      · simp only [Act.put, List.setIfInBounds_toArray, List.set_cons_zero, List.set_cons_succ, i64_w, i32_w]
        rfl
      refine pure_ (i := 1) (N := some 17) (v := ?_) (a' := ?_) #[Y, Y, Yn, Yn, Yn, Yn, Yn, Yn, Yn, Yn, Yn, Yn, Yn, Yn, Yn, Yn, Yn] rfl rfl (any_of HT_.out (by kernel_rfl)) (fun _ _ _ h => h) (Or.inl ⟨by rfl, ?_⟩) ?_ ?_
      rotate_left
      · intro w'
        go_simp
        with_reducible rfl
      rotate_left
      · simp only [Act.put, List.setIfInBounds_toArray, List.set_cons_zero, List.set_cons_succ, i64_w, i32_w]
        rfl
      refine pure_ (i := 2) (N := some 18) (v := ?_) (a' := ?_) #[Y, Y, Y, Yn, Yn, Yn, Yn, Yn, Yn, Yn, Yn, Yn, Yn, Yn, Yn, Yn, Yn] rfl rfl (any_of HT_.out (by kernel_rfl)) (fun _ _ _ h => h) (Or.inl ⟨by rfl, ?_⟩) ?_ ?_
      rotate_left
      · intro w'
        go_simp
        with_reducible rfl
      rotate_left
      · simp only [Act.put, List.setIfInBounds_toArray, List.set_cons_zero, List.set_cons_succ, i64_w, i32_w]
        rfl
      refine pure_ (i := 3) (N := some 19) (v := ?_) (a' := ?_) #[Y, Y, Y, Y, Yn, Yn, Yn, Yn, Yn, Yn, Yn, Yn, Yn, Yn, Yn, Yn, Yn] rfl rfl (any_of HT_.out (by kernel_rfl)) (fun _ _ _ h => h) (Or.inl ⟨by rfl, ?_⟩) ?_ ?_
      rotate_left
      · intro w'
        go_simp
        with_reducible rfl
      rotate_left
      · simp only [Act.put, List.setIfInBounds_toArray, List.set_cons_zero, List.set_cons_succ, i64_w, i32_w]
        rfl
      refine pure_ (i := 5) (N := some 21) (v := ?_) (a' := ?_) #[Y, Y, Y, Y, Yn, Y, Yn, Yn, Yn, Yn, Yn, Yn, Yn, Yn, Yn, Yn, Yn] rfl rfl (any_of HT_.out (by kernel_rfl)) (fun _ _ _ h => h) (Or.inl ⟨by rfl, ?_⟩) ?_ ?_
      rotate_left
      · intro w'
        go_simp
        with_reducible rfl
      rotate_left
      · simp only [Act.put, List.setIfInBounds_toArray, List.set_cons_zero, List.set_cons_succ, i64_w, i32_w]
        rfl
      refine pure_ (i := 6) (N := some 22) (v := ?_) (a' := ?_) #[Y, Y, Y, Y, Yn, Y, Y, Yn, Yn, Yn, Yn, Yn, Yn, Yn, Yn, Yn, Yn] rfl rfl (any_of HT_.out (by kernel_rfl)) (fun _ _ _ h => h) (Or.inl ⟨by rfl, ?_⟩) ?_ ?_
      rotate_left
      · intro w'
        go_simp
        with_reducible rfl
      rotate_left
      · simp only [Act.put, List.setIfInBounds_toArray, List.set_cons_zero, List.set_cons_succ, i64_w, i32_w]
        rfl
      refine pure_ (i := 7) (N := some 23) (v := ?_) (a' := ?_) #[Y, Y, Y, Y, Yn, Y, Y, Y, Yn, Yn, Yn, Yn, Yn, Yn, Yn, Yn, Yn] rfl rfl (any_of HT_.out (by kernel_rfl)) (fun _ _ _ h => h) (Or.inl ⟨by rfl, ?_⟩) ?_ ?_
      rotate_left
      · intro w'
        go_simp
        with_reducible rfl
      rotate_left
      · simp only [Act.put, List.setIfInBounds_toArray, List.set_cons_zero, List.set_cons_succ, i64_w, i32_w]
        rfl
      refine take_ (i := 4) (N := some 20) (v := ?_) (a' := ?_) #[Y, Y, Y, Y, Y, Y, Y, Y, Yn, Yn, Yn, Yn, Yn, Yn, Yn, Yn, Yn] rfl rfl (take_ofW HT_.out HW_.out (by kernel_rfl)) (fun _ _ _ h => h) (Or.inl ⟨by rfl, ?_⟩) hHeld ?_ ?_
      rotate_left
      · rintro w' ⟨s0, s1, s2⟩
        go_simp
        with_reducible rfl
      rotate_left
      · simp only [Act.put, List.setIfInBounds_toArray, List.set_cons_zero, List.set_cons_succ, i64_w, i32_w]
        rfl
      refine take_ (i := 8) (N := some 24) (v := ?_) (a' := ?_) #[Y, Y, Y, Y, Y, Y, Y, Y, Y, Yn, Yn, Yn, Yn, Yn, Yn, Yn, Yn] rfl rfl (take_ofW HT_.out HW_.out (by kernel_rfl)) (fun _ _ _ h => h) (Or.inl ⟨by rfl, ?_⟩) hHeld ?_ ?_
      rotate_left
      · rintro w' ⟨s0, s1, s2⟩
        go_simp
        with_reducible rfl
      rotate_left
      · simp only [Act.put, List.setIfInBounds_toArray, List.set_cons_zero, List.set_cons_succ, i64_w, i32_w]
        rfl
      refine one_ (i := 9) (N := some 25) #[Y, Y, Y, Y, Y, Y, Y, Y, Y, Y, Yn, Yn, Yn, Yn, Yn, Yn, Yn] rfl rfl (one_of HT_.out (by kernel_rfl)) (by decide) (fun K hK => ?_)
      refine goesT_ Tryd.func72 (by kernel_rfl) rfl #[.string s0_0, .int .i64 s0_1] (by rfl) rfl rfl rfl (by (try simp only [List.map_toArray, List.map_cons, List.map_nil]); first | done | rfl | (simp only [List.length_drop, List.length_take]; rfl)) ?_
      with_reducible refine (codec_list.calls k s0_0 s0_1 t131 t132 false _ ?side99  A3.out).mono ?_
      (case side99 => first | exact HG.out | exact Glob.below HG.out (by repeat (first | (with_reducible first | exact HB.out | apply below_alloc | apply pw_below_drewN | apply below_drew1 | refine below_set ?_ (IsS119.ge HI0.out)) | exact HB.out)))
      rintro e w11 ⟨rfl, hb⟩
      refine ⟨_, rfl, ?_⟩
      have n0_ := Aside0.mk (IsS119.below (by repeat (first | (with_reducible first | exact HI0.out | apply IsS119.alloc | apply IsS119.drewN | apply IsS119.drew | apply IsS119.set_0 | apply IsS119.set_1 | apply IsS119.set_2) | exact HI0.out)) hb)
      have n1_ := Aside0.mk (KeepBut.trans (by repeat (first | (with_reducible first | exact HK.out | apply KeepBut.set_ | apply keep_drewN | apply keep_drew | apply keep_alloc) | exact HK.out)) (KeepBut.of_below hb g none) (.inl rfl))
      have n2_ := Aside0.mk (below_step (by repeat (first | (with_reducible first | exact HB.out | apply below_alloc | apply pw_below_drewN | apply below_drew1 | refine below_set ?_ (IsS119.ge HI0.out)) | exact HB.out)) hb)
      clear HI0
      clear HK
      clear HB
      have HI0 := n0_
      have HK := n1_
      have HB := n2_
      clear n0_ n1_ n2_
      (try clear hb)
      (try clear hb2)
      (try clear hk)
      (try clear hi)
      refine hK.out _ _ ⟨(blk_cell (Aside0.mk HI0.out.1).out 0).trans rfl, (blk_cell (Aside0.mk HI0.out.1).out 1).trans rfl, (blk_cell (Aside0.mk HI0.out.1).out 2).trans rfl⟩ (fun hHeld => ?_)
      clear hK K
      refine norm_ (a' := ?_) ?_ ?_
      rotate_left
      · show Act.put _ (some 25) _ = _
        simp only [Act.put, List.setIfInBounds_toArray, List.set_cons_zero, List.set_cons_succ, i64_w, i32_w]
        rfl
      refine pure_ (i := 10) (N := some 15) (v := ?_) (a' := ?_) #[Y, Y, Y, Y, Y, Y, Y, Y, Y, Y, Y, Yn, Yn, Yn, Yn, Yn, Yn] rfl rfl (any_of HT_.out (by kernel_rfl)) (fun _ _ _ h => h) (Or.inl ⟨by rfl, ?_⟩) ?_ ?_
      rotate_left
      · intro w'
        go_simp
        with_reducible rfl
      rotate_left
      · simp only [Act.put, List.setIfInBounds_toArray, List.set_cons_zero, List.set_cons_succ, i64_w, i32_w]
        rfl
      refine pure_ (i := 11) (N := some 26) (v := ?_) (a' := ?_) #[Y, Y, Y, Y, Y, Y, Y, Y, Y, Y, Y, Y, Yn, Yn, Yn, Yn, Yn] rfl rfl (any_of HT_.out (by kernel_rfl)) (fun _ _ _ h => h) (Or.inl ⟨by rfl, ?_⟩) ?_ ?_
      rotate_left
      · intro w'
        go_simp
        with_reducible rfl
      rotate_left
      · simp only [Act.put, List.setIfInBounds_toArray, List.set_cons_zero, List.set_cons_succ, i64_w, i32_w]
        rfl
      refine pure_ (i := 12) (N := some 27) (v := ?_) (a' := ?_) #[Y, Y, Y, Y, Y, Y, Y, Y, Y, Y, Y, Y, Y, Yn, Yn, Yn, Yn] rfl rfl (any_of HT_.out (by kernel_rfl)) (fun _ _ _ h => h) (Or.inl ⟨by rfl, ?_⟩) ?_ ?_
      rotate_left
      · intro w'
        go_simp
        with_reducible rfl
      rotate_left
      · simp only [Act.put, List.setIfInBounds_toArray, List.set_cons_zero, List.set_cons_succ, i64_w, i32_w]
        rfl
      refine pure_ (i := 13) (N := some 28) (v := ?_) (a' := ?_) #[Y, Y, Y, Y, Y, Y, Y, Y, Y, Y, Y, Y, Y, Y, Yn, Yn, Yn] rfl rfl (any_of HT_.out (by kernel_rfl)) (fun _ _ _ h => h) (Or.inl ⟨by rfl, ?_⟩) ?_ ?_
      rotate_left
      · intro w'
        go_simp
        with_reducible rfl
      rotate_left
      · simp only [Act.put, List.setIfInBounds_toArray, List.set_cons_zero, List.set_cons_succ, i64_w, i32_w]
        rfl
      refine pure_ (i := 14) (N := some 6) (v := ?_) (a' := ?_) #[Y, Y, Y, Y, Y, Y, Y, Y, Y, Y, Y, Y, Y, Y, Y, Yn, Yn] rfl rfl (any_of HT_.out (by kernel_rfl)) (fun _ _ _ h => h) (Or.inl ⟨by rfl, ?_⟩) ?_ ?_
      rotate_left
      · intro w'
        go_simp
        with_reducible rfl
      rotate_left
      · simp only [Act.put, List.setIfInBounds_toArray, List.set_cons_zero, List.set_cons_succ, i64_w, i32_w]
        rfl
      refine pure_ (i := 15) (N := some 7) (v := ?_) (a' := ?_) #[Y, Y, Y, Y, Y, Y, Y, Y, Y, Y, Y, Y, Y, Y, Y, Y, Yn] rfl rfl (any_of HT_.out (by kernel_rfl)) (fun _ _ _ h => h) (Or.inl ⟨by rfl, ?_⟩) ?_ ?_
      rotate_left
      · intro w'
        go_simp
        with_reducible rfl
      rotate_left
      · simp only [Act.put, List.setIfInBounds_toArray, List.set_cons_zero, List.set_cons_succ, i64_w, i32_w]
        rfl
      refine pure_ (i := 16) (N := some 8) (v := ?_) (a' := ?_) #[Y, Y, Y, Y, Y, Y, Y, Y, Y, Y, Y, Y, Y, Y, Y, Y, Y] rfl rfl (any_of HT_.out (by kernel_rfl)) (fun _ _ _ h => h) (Or.inl ⟨by rfl, ?_⟩) ?_ ?_
      rotate_left
      · intro w'
        go_simp
        with_reducible rfl
      rotate_left
      · simp only [Act.put, List.setIfInBounds_toArray, List.set_cons_zero, List.set_cons_succ, i64_w, i32_w]
        rfl
      refine done_ (done_of HT_.out (by kernel_rfl)) ?_
      obtain ⟨HGz12, hgz12⟩ := HI0.out
      have hcz12_0 := cellS119_0 HGz12
      have hcz12_1 := cellS119_1 HGz12
      have hcz12_2 := cellS119_2 HGz12
      have hfz12_0 := blk_frozen HGz12 0
      have hfz12_1 := blk_frozen HGz12 1
      have hfz12_2 := blk_frozen HGz12 2
      clear HGz12 hgz12
      try go_wp2_with (first | (go_at_call 71; go_in) | ((try simp only [Exit.inBlock, Exit.then]); refine bodyPost_end (results_none rfl _ _ _) rfl ?_; simp only []; go_at_K))
      go_ret
      exact ⟨by first | rfl | (simp [errW_none, errW_some] <;> rfl) | (simp [*, errW_none, errW_some] <;> rfl), by repeat (first | (with_reducible first | exact HI0.out | apply IsS119.alloc | apply IsS119.drewN | apply IsS119.drew | apply IsS119.set_0 | apply IsS119.set_1 | apply IsS119.set_2) | exact HI0.out), by repeat (first | (with_reducible first | exact HB.out | apply below_alloc | apply pw_below_drewN | apply below_drew1 | refine below_set ?_ (IsS119.ge HI0.out)) | exact HB.out), by repeat (first | (with_reducible first | exact HK.out | apply KeepBut.set_ | apply keep_drewN | apply keep_drew | apply keep_alloc) | exact HK.out)⟩
  · rw [if_neg c2] at H
    have c2b0 : (s0_2 == 0) = false := beq_eq_false_iff_ne.mpr c2
    have c2b1 : (s0_2 != 0) = true := bne_iff_ne.mpr c2
    simp only [Option.some.injEq, Prod.mk.injEq] at H
    obtain ⟨rfl, rfl, rfl, rfl⟩ := H
    obtain ⟨HGz13, hgz13⟩ := HI0.out
    have hcz13_0 := cellS119_0 HGz13
    have hcz13_1 := cellS119_1 HGz13
    have hcz13_2 := cellS119_2 HGz13
    have hfz13_0 := blk_frozen HGz13 0
    have hfz13_1 := blk_frozen HGz13 1
    have hfz13_2 := blk_frozen HGz13 2
    clear HGz13 hgz13
    go_enter Tryd.func46, Tryd.ntmps46
    go_wp2_with (first | (go_at_call 71; go_in) | ((try simp only [Exit.inBlock, Exit.then]); refine bodyPost_end (results_none rfl _ _ _) rfl ?_; simp only []; go_at_K))
    go_ret
    exact ⟨by first | rfl | (simp [errW_none, errW_some] <;> rfl) | (simp [*, errW_none, errW_some] <;> rfl), by repeat (first | (with_reducible first | exact HI0.out | apply IsS119.alloc | apply IsS119.drewN | apply IsS119.drew | apply IsS119.set_0 | apply IsS119.set_1 | apply IsS119.set_2) | exact HI0.out), by repeat (first | (with_reducible first | exact HB.out | apply below_alloc | apply pw_below_drewN | apply below_drew1 | refine below_set ?_ (IsS119.ge HI0.out)) | exact HB.out), by repeat (first | (with_reducible first | exact HK.out | apply KeepBut.set_ | apply keep_drewN | apply keep_drew | apply keep_alloc) | exact HK.out)⟩
end Go.Proofs.YtbgabhknmpbgiaaDoor.S
end
section
namespace Go.Proofs.YtbgabhknmpbgiaaDoor.S
open Go.RowKit Go.Proofs.YtbgabhknmpbgiaaDoorW.PrintWords Go.Proofs.YtbgabhknmpbgiaaDoorW.PrintLast Go.Proofs.YtbgabhknmpbgiaaDoorW.PrintMore
attribute [local go_sem] max2_int min2_int max_two min_two max_three min_three max_four min_four
set_option linter.unusedVariables false
set_option linter.unusedSimpArgs false
def codec_Reader_Unsigned_1.f (k : Nat) (a0 : ByteArray) (a1 : Int) : Option (Int × Int × Bool) := (codec_raw.f k a0 a1 3).bind fun bt134 => (some (bt134.1, bt134.2.1, bt134.2.2))
set_option maxHeartbeats 8000000 in
set_option maxRecDepth 100000 in
theorem codec_Reader_Unsigned_1.calls (k : Nat) (a0 : ByteArray) (a1 : Int) (r1 : Int) (r2 : Int) (r3 : Bool) (w : World) (hG : Glob w) (h : codec_Reader_Unsigned_1.f k a0 a1 = some (r1, r2, r3)) :
    Calls Tryd.prog 74 #[.string a0, .int .i64 a1] w fun e w' => e = .returned (.tuple #[.int .u64 r1, .int .i64 r2, .bool r3]) ∧ Below w.heap.size w w' := by
  have HG := Aside0.mk hG
  clear hG
  have HB := Aside0.mk (Below.refl w.heap.size w)
  have H : ((codec_raw.f k a0 a1 3).bind fun bt134 => (some (bt134.1, bt134.2.1, bt134.2.2))) = some (r1, r2, r3) := h
  clear h
  replace H := Option.bind_eq_some_iff.mp H
  obtain ⟨⟨t134, t135, t136⟩, A30, H⟩ := H
  replace H : (some (t134, t135, t136)) = some (r1, r2, r3) := H
  have A3 := Aside0.mk A30
  clear A30
  simp only [Option.some.injEq, Prod.mk.injEq] at H
  obtain ⟨rfl, rfl, rfl⟩ := H
  go_enter Tryd.func74, Tryd.ntmps74
  go_wp2_with (first | ((with_reducible refine gate_callee (f := 75) rfl ?_); refine goesL_ (some 9) rfl rfl Tryd.func75 (by kernel_rfl) rfl #[.string a0, .int .i64 a1, .int .i64 3] rfl (by (try simp only [List.map_toArray, List.map_cons, List.map_nil]); first | done | rfl | (simp only [List.length_drop, List.length_take]; rfl)) ?_; (with_reducible refine (codec_raw.calls k a0 a1 3 t134 t135 t136 _ ?side99  A3.out).mono ?_); (case side99 => first | exact HG.out | exact Glob.below HG.out (by repeat (first | (with_reducible first | exact HB.out | apply below_alloc | apply pw_below_drewN | apply below_drew1) | exact HB.out))); rintro e w4 ⟨rfl, hb⟩; refine ⟨_, rfl, ?_⟩; have n0_ := Aside0.mk (below_step (by repeat (first | (with_reducible first | exact HB.out | apply below_alloc | apply pw_below_drewN | apply below_drew1) | exact HB.out)) hb); clear HB; have HB := n0_; clear n0_; (try clear hb); (try clear hb2); (try clear hk); (try clear hi)))
  go_ret3
  exact ⟨by first | rfl | (simp [errW_none, errW_some] <;> rfl) | (simp [*, errW_none, errW_some] <;> rfl), by repeat (first | (with_reducible first | exact HB.out | apply below_alloc | apply pw_below_drewN | apply below_drew1) | exact HB.out)⟩
end Go.Proofs.YtbgabhknmpbgiaaDoor.S
end
section
namespace Go.Proofs.YtbgabhknmpbgiaaDoor.S
open Go.RowKit Go.Proofs.YtbgabhknmpbgiaaDoorW.PrintWords Go.Proofs.YtbgabhknmpbgiaaDoorW.PrintLast Go.Proofs.YtbgabhknmpbgiaaDoorW.PrintMore
attribute [local go_sem] max2_int min2_int max_two min_two max_three min_three max_four min_four
set_option linter.unusedVariables false
set_option linter.unusedSimpArgs false
def codec_Reader_Unsigned.f (k : Nat) (s0_0 : ByteArray) (s0_1 : Int) (s0_2 : Int) : Option (Int × ByteArray × Int × Int) := if s0_2 = 0 then ((codec_Reader_Unsigned_1.f k s0_0 s0_1).bind fun bt137 => (if bt137.2.2 = true then (some (bt137.1, s0_0, bt137.2.1, s0_2)) else (some (0, s0_0, s0_1, 2)))) else (some (0, s0_0, s0_1, s0_2))
def codec_Reader_Unsigned.T73004 : Bool × List (List Nat × List Nat) := (true, [([], []), ([], []), ([1], [1]), ([2], [2]), ([3], [3]), ([], []), ([5], [5]), ([6], [6]), ([7], [7]), ([0, 4, 8], [0, 4, 8]), ([9], [9]), ([10], [10]), ([10], [10]), ([10], [10]), ([11, 9, 0, 1, 2, 3, 4, 5, 6, 7, 8, 9, 10, 11], [11]), ([12, 14, 0, 1, 2, 3, 4, 5, 6, 7, 8, 9, 10, 11, 12, 14], [12]), ([13, 15, 0, 1, 2, 3, 4, 5, 6, 7, 8, 9, 10, 11, 12, 13, 14, 15], [13])])
def codec_Reader_Unsigned.B73004 : List Nat := [0, 0, 2, 6, 14, 0, 32, 96, 224, 511, 1023, 2047, 2047, 2047, 4095, 24575, 65535]
theorem codec_Reader_Unsigned.tab73004 : rtab .any (opsOf Tryd.f73 4) = codec_Reader_Unsigned.T73004 := by kernel_rfl
theorem codec_Reader_Unsigned.bits73004 : waitsOk codec_Reader_Unsigned.T73004.2 codec_Reader_Unsigned.B73004 = true := by kernel_rfl
set_option maxHeartbeats 8000000 in
set_option maxRecDepth 100000 in
theorem codec_Reader_Unsigned.calls (k : Nat) (g : Nat) (s0_0 : ByteArray) (s0_1 : Int) (s0_2 : Int) (r1 : Int) (r2 : ByteArray) (r3 : Int) (r4 : Int) (w0 w : World) (hG : Glob w0) (hI : IsS119 w0 w g s0_0 s0_1 s0_2) (hB : Below w0.heap.size w0 w) (h : codec_Reader_Unsigned.f k s0_0 s0_1 s0_2 = some (r1, r2, r3, r4)) :
    Calls Tryd.prog 47 #[.pointer (some ⟨g, 0, none⟩)] w fun e w' => e = .returned (.int .u64 r1) ∧ IsS119 w0 w' g r2 r3 r4 ∧ Below w0.heap.size w0 w' ∧ KeepBut w w' g none := by
  have hmf_ : ∀ (fn : Fn) (first cap : Array Value) (w : World), (Instr.makeFunc fn first cap).run Tryd.prog w = .ok (.func fn first cap) w := fun _ _ _ _ => rfl
  have HG := Aside0.mk hG
  clear hG
  have HI0 := Aside0.mk hI
  have HK := Aside0.mk (KeepBut.refl w g none)
  have HL := Aside0.mk hB.size
  clear hI
  have HW0 := Aside0.mk hB.size
  have HB := Aside0.mk hB
  clear hB
  have H : (if s0_2 = 0 then ((codec_Reader_Unsigned_1.f k s0_0 s0_1).bind fun bt137 => (if bt137.2.2 = true then (some (bt137.1, s0_0, bt137.2.1, s0_2)) else (some (0, s0_0, s0_1, 2)))) else (some (0, s0_0, s0_1, s0_2))) = some (r1, r2, r3, r4) := h
  clear h
  by_cases c2 : s0_2 = 0
  · rw [if_pos c2] at H
    have c2b0 : (s0_2 == 0) = true := beq_iff_eq.mpr c2
    have c2b1 : (s0_2 != 0) = false := bne_eq_false_iff_eq.mpr c2
    clear c2
    replace H := Option.bind_eq_some_iff.mp H
    obtain ⟨⟨t137, t138, t139⟩, A30, H⟩ := H
    replace H : (if t139 = true then (some (t137, s0_0, t138, s0_2)) else (some (0, s0_0, s0_1, 2))) = some (r1, r2, r3, r4) := H
    have A3 := Aside0.mk A30
    clear A30
    by_cases c4 : t139 = true
    · subst c4
      have H1 : (some (t137, s0_0, t138, s0_2)) = some (r1, r2, r3, r4) := by rw [if_pos rfl] at H; exact H
      clear H
      have H := H1
      clear H1
      simp only [Option.some.injEq, Prod.mk.injEq] at H
      obtain ⟨rfl, rfl, rfl, rfl⟩ := H
      obtain ⟨HGz5, hgz5⟩ := HI0.out
      have hcz5_0 := cellS119_0 HGz5
      have hcz5_1 := cellS119_1 HGz5
      have hcz5_2 := cellS119_2 HGz5
      have hfz5_0 := blk_frozen HGz5 0
      have hfz5_1 := blk_frozen HGz5 1
      have hfz5_2 := blk_frozen HGz5 2
      clear HGz5 hgz5
      go_enter Tryd.func47, Tryd.ntmps47
      try go_wp2_with (first | (go_at_call 73; go_in) | ((try simp only [Exit.inBlock, Exit.then]); refine bodyPost_end (results_none rfl _ _ _) rfl ?_; simp only []; go_at_K))
      have n0_ := Aside0.mk (IsS119.drew HI0.out)
      have n1_ := Aside0.mk (keep_drew HK.out)
      have n2_ := Aside0.mk (below_drew1 HB.out)
      clear HI0
      clear HK
      clear HB
      have HI0 := n0_
      have HK := n1_
      have HB := n2_
      clear n0_ n1_ n2_
      refine start_ (n := 17) (S := fun w' => w'.cell? ⟨g, 0, none⟩ = some (.string s0_0) ∧ w'.cell? ⟨g, 1, none⟩ = some (.int .i64 s0_1) ∧ w'.cell? ⟨g, 2, none⟩ = some (.int .i64 s0_2)) (ds := []) #[Yn, Yn, Yn, Yn, Yn, Yn, Yn, Yn, Yn, Yn, Yn, Yn, Yn, Yn, Yn, Yn, Yn] (by kernel_rfl) rfl rfl ⟨(blk_cell (Aside0.mk HI0.out.1).out 0).trans rfl, (blk_cell (Aside0.mk HI0.out.1).out 1).trans rfl, (blk_cell (Aside0.mk HI0.out.1).out 2).trans rfl⟩ (fun hHeld => ?_); refine with_tabW codec_Reader_Unsigned.tab73004 codec_Reader_Unsigned.bits73004 (fun HT_ HW_ => ?_)
      generalize w.drew = w6 at HI0 HK HB hHeld ⊢
      refine pure_ (i := 0) (N := some 16) (v := ?_) (a' := ?_) #[Y, Yn, Yn, Yn, Yn, Yn, Yn, Yn, Yn, Yn, Yn, Yn, Yn, Yn, Yn, Yn, Yn] rfl rfl (any_of HT_.out (by kernel_rfl)) (fun _ _ _ h => h) (Or.inl ⟨by rfl, ?_⟩) ?_ ?_
      rotate_left
      · intro w'
        go_simp
        with_reducible rfl
      rotate_left
      · simp only [Act.put, List.setIfInBounds_toArray, List.set_cons_zero, List.set_cons_succ, i64_w, i32_w]
        rfl
      refine pure_ (i := 1) (N := some 17) (v := ?_) (a' := ?_) #[Y, Y, Yn, Yn, Yn, Yn, Yn, Yn, Yn, Yn, Yn, Yn, Yn, Yn, Yn, Yn, Yn] rfl rfl (any_of HT_.out (by kernel_rfl)) (fun _ _ _ h => h) (Or.inl ⟨by rfl, ?_⟩) ?_ ?_
      rotate_left
      · intro w'
        go_simp
        with_reducible rfl
      rotate_left
      · simp only [Act.put, List.setIfInBounds_toArray, List.set_cons_zero, List.set_cons_succ, i64_w, i32_w]
        rfl
      refine pure_ (i := 2) (N := some 18) (v := ?_) (a' := ?_) #[Y, Y, Y, Yn, Yn, Yn, Yn, Yn, Yn, Yn, Yn, Yn, Yn, Yn, Yn, Yn, Yn] rfl rfl (any_of HT_.out (by kernel_rfl)) (fun _ _ _ h => h) (Or.inl ⟨by rfl, ?_⟩) ?_ ?_
      rotate_left
      · intro w'
        go_simp
        with_reducible rfl
      rotate_left
      · simp only [Act.put, List.setIfInBounds_toArray, List.set_cons_zero, List.set_cons_succ, i64_w, i32_w]
        rfl
      refine pure_ (i := 3) (N := some 19) (v := ?_) (a' := ?_) #[Y, Y, Y, Y, Yn, Yn, Yn, Yn, Yn, Yn, Yn, Yn, Yn, Yn, Yn, Yn, Yn] rfl rfl (any_of HT_.out (by kernel_rfl)) (fun _ _ _ h => h) (Or.inl ⟨by rfl, ?_⟩) ?_ ?_
      rotate_left
      · intro w'
        go_simp
        with_reducible rfl
      rotate_left
      · simp only [Act.put, List.setIfInBounds_toArray, List.set_cons_zero, List.set_cons_succ, i64_w, i32_w]
        rfl
      refine pure_ (i := 5) (N := some 21) (v := ?_) (a' := ?_) #[Y, Y, Y, Y, Yn, Y, Yn, Yn, Yn, Yn, Yn, Yn, Yn, Yn, Yn, Yn, Yn] rfl rfl (any_of HT_.out (by kernel_rfl)) (fun _ _ _ h => h) (Or.inl ⟨by rfl, ?_⟩) ?_ ?_
      rotate_left
      · intro w'
        go_simp
        with_reducible rfl
      rotate_left
      · simp only [Act.put, List.setIfInBounds_toArray, List.set_cons_zero, List.set_cons_succ, i64_w, i32_w]
        rfl
      refine pure_ (i := 6) (N := some 22) (v := ?_) (a' := ?_) #[Y, Y, Y, Y, Yn, Y, Y, Yn, Yn, Yn, Yn, Yn, Yn, Yn, Yn, Yn, Yn] rfl rfl (any_of HT_.out (by kernel_rfl)) (fun _ _ _ h => h) (Or.inl ⟨by rfl, ?_⟩) ?_ ?_
      rotate_left
      · intro w'
        go_simp
        with_reducible rfl
      rotate_left
      · simp only [Act.put, List.setIfInBounds_toArray, List.set_cons_zero, List.set_cons_succ, i64_w, i32_w]
        rfl
      refine pure_ (i := 7) (N := some 23) (v := ?_) (a' := ?_) #[Y, Y, Y, Y, Yn, Y, Y, Y, Yn, Yn, Yn, Yn, Yn, Yn, Yn, Yn, Yn] rfl rfl (any_of HT_.out (by kernel_rfl)) (fun _ _ _ h => h) (Or.inl ⟨by rfl, ?_⟩) ?_ ?_
      rotate_left
      · intro w'
        go_simp
        with_reducible rfl
      rotate_left
      · simp only [Act.put, List.setIfInBounds_toArray, List.set_cons_zero, List.set_cons_succ, i64_w, i32_w]
        rfl
      refine take_ (i := 4) (N := some 20) (v := ?_) (a' := ?_) #[Y, Y, Y, Y, Y, Y, Y, Y, Yn, Yn, Yn, Yn, Yn, Yn, Yn, Yn, Yn] rfl rfl (take_ofW HT_.out HW_.out (by kernel_rfl)) (fun _ _ _ h => h) (Or.inl ⟨by rfl, ?_⟩) hHeld ?_ ?_
      rotate_left
      · rintro w' ⟨s0, s1, s2⟩
        go_simp
        with_reducible rfl
      rotate_left
      · simp only [Act.put, List.setIfInBounds_toArray, List.set_cons_zero, List.set_cons_succ, i64_w, i32_w]
        rfl
      refine take_ (i := 8) (N := some 24) (v := ?_) (a' := ?_) #[Y, Y, Y, Y, Y, Y, Y, Y, Y, Yn, Yn, Yn, Yn, Yn, Yn, Yn, Yn] rfl rfl (take_ofW HT_.out HW_.out (by kernel_rfl)) (fun _ _ _ h => h) (Or.inl ⟨by rfl, ?_⟩) hHeld ?_ ?_
      rotate_left
      · rintro w' ⟨s0, s1, s2⟩
        go_simp
        with_reducible rfl
      rotate_left
      · simp only [Act.put, List.setIfInBounds_toArray, List.set_cons_zero, List.set_cons_succ, i64_w, i32_w]
        rfl
      refine one_ (i := 9) (N := some 25) #[Y, Y, Y, Y, Y, Y, Y, Y, Y, Y, Yn, Yn, Yn, Yn, Yn, Yn, Yn] rfl rfl (one_of HT_.out (by kernel_rfl)) (by decide) (fun K hK => ?_)
      refine goesT_ Tryd.func74 (by kernel_rfl) rfl #[.string s0_0, .int .i64 s0_1] (by rfl) rfl rfl rfl (by (try simp only [List.map_toArray, List.map_cons, List.map_nil]); first | done | rfl | (simp only [List.length_drop, List.length_take]; rfl)) ?_
      with_reducible refine (codec_Reader_Unsigned_1.calls k s0_0 s0_1 t137 t138 true _ ?side99  A3.out).mono ?_
      (case side99 => first | exact HG.out | exact Glob.below HG.out (by repeat (first | (with_reducible first | exact HB.out | apply below_alloc | apply pw_below_drewN | apply below_drew1 | refine below_set ?_ (IsS119.ge HI0.out)) | exact HB.out)))
      rintro e w7 ⟨rfl, hb⟩
      refine ⟨_, rfl, ?_⟩
      have n0_ := Aside0.mk (IsS119.below (by repeat (first | (with_reducible first | exact HI0.out | apply IsS119.alloc | apply IsS119.drewN | apply IsS119.drew | apply IsS119.set_0 | apply IsS119.set_1 | apply IsS119.set_2) | exact HI0.out)) hb)
      have n1_ := Aside0.mk (KeepBut.trans (by repeat (first | (with_reducible first | exact HK.out | apply KeepBut.set_ | apply keep_drewN | apply keep_drew | apply keep_alloc) | exact HK.out)) (KeepBut.of_below hb g none) (.inl rfl))
      have n2_ := Aside0.mk (below_step (by repeat (first | (with_reducible first | exact HB.out | apply below_alloc | apply pw_below_drewN | apply below_drew1 | refine below_set ?_ (IsS119.ge HI0.out)) | exact HB.out)) hb)
      clear HI0
      clear HK
      clear HB
      have HI0 := n0_
      have HK := n1_
      have HB := n2_
      clear n0_ n1_ n2_
      (try clear hb)
      (try clear hb2)
      (try clear hk)
      (try clear hi)
      refine hK.out _ _ ⟨(blk_cell (Aside0.mk HI0.out.1).out 0).trans rfl, (blk_cell (Aside0.mk HI0.out.1).out 1).trans rfl, (blk_cell (Aside0.mk HI0.out.1).out 2).trans rfl⟩ (fun hHeld => ?_)
      clear hK K
      refine norm_ (a' := ?_) ?_ ?_
      rotate_left
      · show Act.put _ (some 25) _ = _
        simp only [Act.put, List.setIfInBounds_toArray, List.set_cons_zero, List.set_cons_succ, i64_w, i32_w]
        rfl
      refine pure_ (i := 10) (N := some 15) (v := ?_) (a' := ?_) #[Y, Y, Y, Y, Y, Y, Y, Y, Y, Y, Y, Yn, Yn, Yn, Yn, Yn, Yn] rfl rfl (any_of HT_.out (by kernel_rfl)) (fun _ _ _ h => h) (Or.inl ⟨by rfl, ?_⟩) ?_ ?_
      rotate_left
      · intro w'
        go_simp
        with_reducible rfl
      rotate_left
      · simp only [Act.put, List.setIfInBounds_toArray, List.set_cons_zero, List.set_cons_succ, i64_w, i32_w]
        rfl
      refine pure_ (i := 11) (N := some 26) (v := ?_) (a' := ?_) #[Y, Y, Y, Y, Y, Y, Y, Y, Y, Y, Y, Y, Yn, Yn, Yn, Yn, Yn] rfl rfl (any_of HT_.out (by kernel_rfl)) (fun _ _ _ h => h) (Or.inl ⟨by rfl, ?_⟩) ?_ ?_
      rotate_left
      · intro w'
        go_simp
        with_reducible rfl
      rotate_left
      · simp only [Act.put, List.setIfInBounds_toArray, List.set_cons_zero, List.set_cons_succ, i64_w, i32_w]
        rfl
      refine pure_ (i := 12) (N := some 27) (v := ?_) (a' := ?_) #[Y, Y, Y, Y, Y, Y, Y, Y, Y, Y, Y, Y, Y, Yn, Yn, Yn, Yn] rfl rfl (any_of HT_.out (by kernel_rfl)) (fun _ _ _ h => h) (Or.inl ⟨by rfl, ?_⟩) ?_ ?_
      rotate_left
      · intro w'
        go_simp
        with_reducible rfl
      rotate_left
      · simp only [Act.put, List.setIfInBounds_toArray, List.set_cons_zero, List.set_cons_succ, i64_w, i32_w]
        rfl
      refine pure_ (i := 13) (N := some 28) (v := ?_) (a' := ?_) #[Y, Y, Y, Y, Y, Y, Y, Y, Y, Y, Y, Y, Y, Y, Yn, Yn, Yn] rfl rfl (any_of HT_.out (by kernel_rfl)) (fun _ _ _ h => h) (Or.inl ⟨by rfl, ?_⟩) ?_ ?_
      rotate_left
      · intro w'
        go_simp
        with_reducible rfl
      rotate_left
      · simp only [Act.put, List.setIfInBounds_toArray, List.set_cons_zero, List.set_cons_succ, i64_w, i32_w]
        rfl
      refine pure_ (i := 14) (N := some 6) (v := ?_) (a' := ?_) #[Y, Y, Y, Y, Y, Y, Y, Y, Y, Y, Y, Y, Y, Y, Y, Yn, Yn] rfl rfl (any_of HT_.out (by kernel_rfl)) (fun _ _ _ h => h) (Or.inl ⟨by rfl, ?_⟩) ?_ ?_
      rotate_left
      · intro w'
        go_simp
        with_reducible rfl
      rotate_left
      · simp only [Act.put, List.setIfInBounds_toArray, List.set_cons_zero, List.set_cons_succ, i64_w, i32_w]
        rfl
      refine pure_ (i := 15) (N := some 7) (v := ?_) (a' := ?_) #[Y, Y, Y, Y, Y, Y, Y, Y, Y, Y, Y, Y, Y, Y, Y, Y, Yn] rfl rfl (any_of HT_.out (by kernel_rfl)) (fun _ _ _ h => h) (Or.inl ⟨by rfl, ?_⟩) ?_ ?_
      rotate_left
      · intro w'
        go_simp
        with_reducible rfl
      rotate_left
      · simp only [Act.put, List.setIfInBounds_toArray, List.set_cons_zero, List.set_cons_succ, i64_w, i32_w]
        rfl
      refine pure_ (i := 16) (N := some 8) (v := ?_) (a' := ?_) #[Y, Y, Y, Y, Y, Y, Y, Y, Y, Y, Y, Y, Y, Y, Y, Y, Y] rfl rfl (any_of HT_.out (by kernel_rfl)) (fun _ _ _ h => h) (Or.inl ⟨by rfl, ?_⟩) ?_ ?_
      rotate_left
      · intro w'
        go_simp
        with_reducible rfl
      rotate_left
      · simp only [Act.put, List.setIfInBounds_toArray, List.set_cons_zero, List.set_cons_succ, i64_w, i32_w]
        rfl
      refine done_ (done_of HT_.out (by kernel_rfl)) ?_
      obtain ⟨HGz8, hgz8⟩ := HI0.out
      have hcz8_0 := cellS119_0 HGz8
      have hcz8_1 := cellS119_1 HGz8
      have hcz8_2 := cellS119_2 HGz8
      have hfz8_0 := blk_frozen HGz8 0
      have hfz8_1 := blk_frozen HGz8 1
      have hfz8_2 := blk_frozen HGz8 2
      clear HGz8 hgz8
      try go_wp2_with (first | (go_at_call 73; go_in) | ((try simp only [Exit.inBlock, Exit.then]); refine bodyPost_end (results_none rfl _ _ _) rfl ?_; simp only []; go_at_K))
      go_ret
      exact ⟨by first | rfl | (simp [errW_none, errW_some] <;> rfl) | (simp [*, errW_none, errW_some] <;> rfl), by repeat (first | (with_reducible first | exact HI0.out | apply IsS119.alloc | apply IsS119.drewN | apply IsS119.drew | apply IsS119.set_0 | apply IsS119.set_1 | apply IsS119.set_2) | exact HI0.out), by repeat (first | (with_reducible first | exact HB.out | apply below_alloc | apply pw_below_drewN | apply below_drew1 | refine below_set ?_ (IsS119.ge HI0.out)) | exact HB.out), by repeat (first | (with_reducible first | exact HK.out | apply KeepBut.set_ | apply keep_drewN | apply keep_drew | apply keep_alloc) | exact HK.out)⟩
    · replace c4 := Bool.eq_false_iff.mpr c4
      subst c4
      have H1 : (some (0, s0_0, s0_1, 2)) = some (r1, r2, r3, r4) := by rw [if_neg (show ¬ (false = true) by decide)] at H; exact H
      clear H
      have H := H1
      clear H1
      simp only [Option.some.injEq, Prod.mk.injEq] at H
      obtain ⟨rfl, rfl, rfl, rfl⟩ := H
      obtain ⟨HGz9, hgz9⟩ := HI0.out
      have hcz9_0 := cellS119_0 HGz9
      have hcz9_1 := cellS119_1 HGz9
      have hcz9_2 := cellS119_2 HGz9
      have hfz9_0 := blk_frozen HGz9 0
      have hfz9_1 := blk_frozen HGz9 1
      have hfz9_2 := blk_frozen HGz9 2
      clear HGz9 hgz9
      go_enter Tryd.func47, Tryd.ntmps47
      try go_wp2_with (first | (go_at_call 73; go_in) | ((try simp only [Exit.inBlock, Exit.then]); refine bodyPost_end (results_none rfl _ _ _) rfl ?_; simp only []; go_at_K))
      have n0_ := Aside0.mk (IsS119.drew HI0.out)
      have n1_ := Aside0.mk (keep_drew HK.out)
      have n2_ := Aside0.mk (below_drew1 HB.out)
      clear HI0
      clear HK
      clear HB
      have HI0 := n0_
      have HK := n1_
      have HB := n2_
      clear n0_ n1_ n2_
      refine start_ (n := 17) (S := fun w' => w'.cell? ⟨g, 0, none⟩ = some (.string s0_0) ∧ w'.cell? ⟨g, 1, none⟩ = some (.int .i64 s0_1) ∧ w'.cell? ⟨g, 2, none⟩ = some (.int .i64 s0_2)) (ds := []) #[Yn, Yn, Yn, Yn, Yn, Yn, Yn, Yn, Yn, Yn, Yn, Yn, Yn, Yn, Yn, Yn, Yn] (by kernel_rfl) rfl rfl ⟨(blk_cell (Aside0.mk HI0.out.1).out 0).trans rfl, (blk_cell (Aside0.mk HI0.out.1).out 1).trans rfl, (blk_cell (Aside0.mk HI0.out.1).out 2).trans rfl⟩ (fun hHeld => ?_); refine with_tabW codec_Reader_Unsigned.tab73004 codec_Reader_Unsigned.bits73004 (fun HT_ HW_ => ?_)
      generalize w.drew = w10 at HI0 HK HB hHeld ⊢
      refine pure_ (i := 0) (N := some 16) (v := ?_) (a' := ?_) #[Y, Yn, Yn, Yn, Yn, Yn, Yn, Yn, Yn, Yn, Yn, Yn, Yn, Yn, Yn, Yn, Yn] rfl rfl (any_of HT_.out (by kernel_rfl)) (fun _ _ _ h => h) (Or.inl ⟨by rfl, ?_⟩) ?_ ?_
      rotate_left
      · intro w'
        go_simp
        with_reducible rfl
      rotate_left
      · simp only [Act.put, List.setIfInBounds_toArray, List.set_cons_zero, List.set_cons_succ, i64_w, i32_w]
        rfl
      refine pure_ (i := 1) (N := some 17) (v := ?_) (a' := ?_) #[Y, Y, Yn, Yn, Yn, Yn, Yn, Yn, Yn, Yn, Yn, Yn, Yn, Yn, Yn, Yn, Yn] rfl rfl (any_of HT_.out (by kernel_rfl)) (fun _ _ _ h => h) (Or.inl ⟨by rfl, ?_⟩) ?_ ?_
      rotate_left
      · intro w'
        go_simp
        with_reducible rfl
      rotate_left
      · simp only [Act.put, List.setIfInBounds_toArray, List.set_cons_zero, List.set_cons_succ, i64_w, i32_w]
        rfl
      refine pure_ (i := 2) (N := some 18) (v := ?_) (a' := ?_) #[Y, Y, Y, Yn, Yn, Yn, Yn, Yn, Yn, Yn, Yn, Yn, Yn, Yn, Yn, Yn, Yn] rfl rfl (any_of HT_.out (by kernel_rfl)) (fun _ _ _ h => h) (Or.inl ⟨by rfl, ?_⟩) ?_ ?_
      rotate_left
      · intro w'
        go_simp
        with_reducible rfl
      rotate_left
      · simp only [Act.put, List.setIfInBounds_toArray, List.set_cons_zero, List.set_cons_succ, i64_w, i32_w]
        rfl
      refine pure_ (i := 3) (N := some 19) (v := ?_) (a' := ?_) #[Y, Y, Y, Y, Yn, Yn, Yn, Yn, Yn, Yn, Yn, Yn, Yn, Yn, Yn, Yn, Yn] rfl rfl (any_of HT_.out (by kernel_rfl)) (fun _ _ _ h => h) (Or.inl ⟨by rfl, ?_⟩) ?_ ?_
      rotate_left
      · intro w'
        go_simp
        with_reducible rfl
      rotate_left
      · simp only [Act.put, List.setIfInBounds_toArray, List.set_cons_zero, List.set_cons_succ, i64_w, i32_w]
        rfl
      refine pure_ (i := 5) (N := some 21) (v := ?_) (a' := ?_) #[Y, Y, Y, Y, Yn, Y, Yn, Yn, Yn, Yn, Yn, Yn, Yn, Yn, Yn, Yn, Yn] rfl rfl (any_of HT_.out (by kernel_rfl)) (fun _ _ _ h => h) (Or.inl ⟨by rfl, ?_⟩) ?_ ?_
      rotate_left
      · intro w'
        go_simp
        with_reducible rfl
      rotate_left
      · simp only [Act.put, List.setIfInBounds_toArray, List.set_cons_zero, List.set_cons_succ, i64_w, i32_w]
        rfl
      refine pure_ (i := 6) (N := some 22) (v := ?_) (a' := ?_) #[Y, Y, Y, Y, Yn, Y, Y, Yn, Yn, Yn, Yn, Yn, Yn, Yn, Yn, Yn, Yn] rfl rfl (any_of HT_.out (by kernel_rfl)) (fun _ _ _ h => h) (Or.inl ⟨by rfl, ?_⟩) ?_ ?_
      rotate_left
      · intro w'
        go_simp
        with_reducible rfl
      rotate_left
      · simp only [Act.put, List.setIfInBounds_toArray, List.set_cons_zero, List.set_cons_succ, i64_w, i32_w]
        rfl
      refine pure_ (i := 7) (N := some 23) (v := ?_) (a' := ?_) #[Y, Y, Y, Y, Yn, Y, Y, Y, Yn, Yn, Yn, Yn, Yn, Yn, Yn, Yn, Yn] rfl rfl (any_of HT_.out (by kernel_rfl)) (fun _ _ _ h => h) (Or.inl ⟨by rfl, ?_⟩) ?_ ?_
      rotate_left
      · intro w'
        go_simp
        with_reducible rfl
      rotate_left
      · simp only [Act.put, List.setIfInBounds_toArray, List.set_cons_zero, List.set_cons_succ, i64_w, i32_w]
        rfl
      refine take_ (i := 4) (N := some 20) (v := ?_) (a' := ?_) #[Y, Y, Y, Y, Y, Y, Y, Y, Yn, Yn, Yn, Yn, Yn, Yn, Yn, Yn, Yn] rfl rfl (take_ofW HT_.out HW_.out (by kernel_rfl)) (fun _ _ _ h => h) (Or.inl ⟨by rfl, ?_⟩) hHeld ?_ ?_
      rotate_left
      · rintro w' ⟨s0, s1, s2⟩
        go_simp
        with_reducible rfl
      rotate_left
      · simp only [Act.put, List.setIfInBounds_toArray, List.set_cons_zero, List.set_cons_succ, i64_w, i32_w]
        rfl
      refine take_ (i := 8) (N := some 24) (v := ?_) (a' := ?_) #[Y, Y, Y, Y, Y, Y, Y, Y, Y, Yn, Yn, Yn, Yn, Yn, Yn, Yn, Yn] rfl rfl (take_ofW HT_.out HW_.out (by kernel_rfl)) (fun _ _ _ h => h) (Or.inl ⟨by rfl, ?_⟩) hHeld ?_ ?_
      rotate_left
      · rintro w' ⟨s0, s1, s2⟩
        go_simp
        with_reducible rfl
      rotate_left
      · simp only [Act.put, List.setIfInBounds_toArray, List.set_cons_zero, List.set_cons_succ, i64_w, i32_w]
        rfl
      refine one_ (i := 9) (N := some 25) #[Y, Y, Y, Y, Y, Y, Y, Y, Y, Y, Yn, Yn, Yn, Yn, Yn, Yn, Yn] rfl rfl (one_of HT_.out (by kernel_rfl)) (by decide) (fun K hK => ?_)
      refine goesT_ Tryd.func74 (by kernel_rfl) rfl #[.string s0_0, .int .i64 s0_1] (by rfl) rfl rfl rfl (by (try simp only [List.map_toArray, List.map_cons, List.map_nil]); first | done | rfl | (simp only [List.length_drop, List.length_take]; rfl)) ?_
      with_reducible refine (codec_Reader_Unsigned_1.calls k s0_0 s0_1 t137 t138 false _ ?side99  A3.out).mono ?_
      (case side99 => first | exact HG.out | exact Glob.below HG.out (by repeat (first | (with_reducible first | exact HB.out | apply below_alloc | apply pw_below_drewN | apply below_drew1 | refine below_set ?_ (IsS119.ge HI0.out)) | exact HB.out)))
      rintro e w11 ⟨rfl, hb⟩
      refine ⟨_, rfl, ?_⟩
      have n0_ := Aside0.mk (IsS119.below (by repeat (first | (with_reducible first | exact HI0.out | apply IsS119.alloc | apply IsS119.drewN | apply IsS119.drew | apply IsS119.set_0 | apply IsS119.set_1 | apply IsS119.set_2) | exact HI0.out)) hb)
      have n1_ := Aside0.mk (KeepBut.trans (by repeat (first | (with_reducible first | exact HK.out | apply KeepBut.set_ | apply keep_drewN | apply keep_drew | apply keep_alloc) | exact HK.out)) (KeepBut.of_below hb g none) (.inl rfl))
      have n2_ := Aside0.mk (below_step (by repeat (first | (with_reducible first | exact HB.out | apply below_alloc | apply pw_below_drewN | apply below_drew1 | refine below_set ?_ (IsS119.ge HI0.out)) | exact HB.out)) hb)
      clear HI0
      clear HK
      clear HB
      have HI0 := n0_
      have HK := n1_
      have HB := n2_
      clear n0_ n1_ n2_
      (try clear hb)
      (try clear hb2)
      (try clear hk)
      (try clear hi)
      refine hK.out _ _ ⟨(blk_cell (Aside0.mk HI0.out.1).out 0).trans rfl, (blk_cell (Aside0.mk HI0.out.1).out 1).trans rfl, (blk_cell (Aside0.mk HI0.out.1).out 2).trans rfl⟩ (fun hHeld => ?_)
      clear hK K
      refine norm_ (a' := ?_) ?_ ?_
      rotate_left
      · show Act.put _ (some 25) _ = _
        simp only [Act.put, List.setIfInBounds_toArray, List.set_cons_zero, List.set_cons_succ, i64_w, i32_w]
        rfl
      refine pure_ (i := 10) (N := some 15) (v := ?_) (a' := ?_) #[Y, Y, Y, Y, Y, Y, Y, Y, Y, Y, Y, Yn, Yn, Yn, Yn, Yn, Yn] rfl rfl (any_of HT_.out (by kernel_rfl)) (fun _ _ _ h => h) (Or.inl ⟨by rfl, ?_⟩) ?_ ?_
      rotate_left
      · intro w'
        go_simp
        with_reducible rfl
      rotate_left
      · simp only [Act.put, List.setIfInBounds_toArray, List.set_cons_zero, List.set_cons_succ, i64_w, i32_w]
        rfl
      refine pure_ (i := 11) (N := some 26) (v := ?_) (a' := ?_) #[Y, Y, Y, Y, Y, Y, Y, Y, Y, Y, Y, Y, Yn, Yn, Yn, Yn, Yn] rfl rfl (any_of HT_.out (by kernel_rfl)) (fun _ _ _ h => h) (Or.inl ⟨by rfl, ?_⟩) ?_ ?_
      rotate_left
      · intro w'
        go_simp
        with_reducible rfl
      rotate_left
      · simp only [Act.put, List.setIfInBounds_toArray, List.set_cons_zero, List.set_cons_succ, i64_w, i32_w]
        rfl
      refine pure_ (i := 12) (N := some 27) (v := ?_) (a' := ?_) #[Y, Y, Y, Y, Y, Y, Y, Y, Y, Y, Y, Y, Y, Yn, Yn, Yn, Yn] rfl rfl (any_of HT_.out (by kernel_rfl)) (fun _ _ _ h => h) (Or.inl ⟨by rfl, ?_⟩) ?_ ?_
      rotate_left
      · intro w'
        go_simp
        with_reducible rfl
      rotate_left
      · simp only [Act.put, List.setIfInBounds_toArray, List.set_cons_zero, List.set_cons_succ, i64_w, i32_w]
        rfl
      refine pure_ (i := 13) (N := some 28) (v := ?_) (a' := ?_) #[Y, Y, Y, Y, Y, Y, Y, Y, Y, Y, Y, Y, Y, Y, Yn, Yn, Yn] rfl rfl (any_of HT_.out (by kernel_rfl)) (fun _ _ _ h => h) (Or.inl ⟨by rfl, ?_⟩) ?_ ?_
      rotate_left
      · intro w'
        go_simp
        with_reducible rfl
      rotate_left
      · simp only [Act.put, List.setIfInBounds_toArray, List.set_cons_zero, List.set_cons_succ, i64_w, i32_w]
        rfl
      refine pure_ (i := 14) (N := some 6) (v := ?_) (a' := ?_) #[Y, Y, Y, Y, Y, Y, Y, Y, Y, Y, Y, Y, Y, Y, Y, Yn, Yn] rfl rfl (any_of HT_.out (by kernel_rfl)) (fun _ _ _ h => h) (Or.inl ⟨by rfl, ?_⟩) ?_ ?_
      rotate_left
      · intro w'
        go_simp
        with_reducible rfl
      rotate_left
      · simp only [Act.put, List.setIfInBounds_toArray, List.set_cons_zero, List.set_cons_succ, i64_w, i32_w]
        rfl
      refine pure_ (i := 15) (N := some 7) (v := ?_) (a' := ?_) #[Y, Y, Y, Y, Y, Y, Y, Y, Y, Y, Y, Y, Y, Y, Y, Y, Yn] rfl rfl (any_of HT_.out (by kernel_rfl)) (fun _ _ _ h => h) (Or.inl ⟨by rfl, ?_⟩) ?_ ?_
      rotate_left
      · intro w'
        go_simp
        with_reducible rfl
      rotate_left
      · simp only [Act.put, List.setIfInBounds_toArray, List.set_cons_zero, List.set_cons_succ, i64_w, i32_w]
        rfl
      refine pure_ (i := 16) (N := some 8) (v := ?_) (a' := ?_) #[Y, Y, Y, Y, Y, Y, Y, Y, Y, Y, Y, Y, Y, Y, Y, Y, Y] rfl rfl (any_of HT_.out (by kernel_rfl)) (fun _ _ _ h => h) (Or.inl ⟨by rfl, ?_⟩) ?_ ?_
      rotate_left
      · intro w'
        go_simp
        with_reducible rfl
      rotate_left
      · simp only [Act.put, List.setIfInBounds_toArray, List.set_cons_zero, List.set_cons_succ, i64_w, i32_w]
        rfl
      refine done_ (done_of HT_.out (by kernel_rfl)) ?_
      obtain ⟨HGz12, hgz12⟩ := HI0.out
      have hcz12_0 := cellS119_0 HGz12
      have hcz12_1 := cellS119_1 HGz12
      have hcz12_2 := cellS119_2 HGz12
      have hfz12_0 := blk_frozen HGz12 0
      have hfz12_1 := blk_frozen HGz12 1
      have hfz12_2 := blk_frozen HGz12 2
      clear HGz12 hgz12
      try go_wp2_with (first | (go_at_call 73; go_in) | ((try simp only [Exit.inBlock, Exit.then]); refine bodyPost_end (results_none rfl _ _ _) rfl ?_; simp only []; go_at_K))
      go_ret
      exact ⟨by first | rfl | (simp [errW_none, errW_some] <;> rfl) | (simp [*, errW_none, errW_some] <;> rfl), by repeat (first | (with_reducible first | exact HI0.out | apply IsS119.alloc | apply IsS119.drewN | apply IsS119.drew | apply IsS119.set_0 | apply IsS119.set_1 | apply IsS119.set_2) | exact HI0.out), by repeat (first | (with_reducible first | exact HB.out | apply below_alloc | apply pw_below_drewN | apply below_drew1 | refine below_set ?_ (IsS119.ge HI0.out)) | exact HB.out), by repeat (first | (with_reducible first | exact HK.out | apply KeepBut.set_ | apply keep_drewN | apply keep_drew | apply keep_alloc) | exact HK.out)⟩
  · rw [if_neg c2] at H
    have c2b0 : (s0_2 == 0) = false := beq_eq_false_iff_ne.mpr c2
    have c2b1 : (s0_2 != 0) = true := bne_iff_ne.mpr c2
    simp only [Option.some.injEq, Prod.mk.injEq] at H
    obtain ⟨rfl, rfl, rfl, rfl⟩ := H
    obtain ⟨HGz13, hgz13⟩ := HI0.out
    have hcz13_0 := cellS119_0 HGz13
    have hcz13_1 := cellS119_1 HGz13
    have hcz13_2 := cellS119_2 HGz13
    have hfz13_0 := blk_frozen HGz13 0
    have hfz13_1 := blk_frozen HGz13 1
    have hfz13_2 := blk_frozen HGz13 2
    clear HGz13 hgz13
    go_enter Tryd.func47, Tryd.ntmps47
    go_wp2_with (first | (go_at_call 73; go_in) | ((try simp only [Exit.inBlock, Exit.then]); refine bodyPost_end (results_none rfl _ _ _) rfl ?_; simp only []; go_at_K))
    go_ret
    exact ⟨by first | rfl | (simp [errW_none, errW_some] <;> rfl) | (simp [*, errW_none, errW_some] <;> rfl), by repeat (first | (with_reducible first | exact HI0.out | apply IsS119.alloc | apply IsS119.drewN | apply IsS119.drew | apply IsS119.set_0 | apply IsS119.set_1 | apply IsS119.set_2) | exact HI0.out), by repeat (first | (with_reducible first | exact HB.out | apply below_alloc | apply pw_below_drewN | apply below_drew1 | refine below_set ?_ (IsS119.ge HI0.out)) | exact HB.out), by repeat (first | (with_reducible first | exact HK.out | apply KeepBut.set_ | apply keep_drewN | apply keep_drew | apply keep_alloc) | exact HK.out)⟩
end Go.Proofs.YtbgabhknmpbgiaaDoor.S
end
section
namespace Go.Proofs.YtbgabhknmpbgiaaDoor.S
open Go.RowKit Go.Proofs.YtbgabhknmpbgiaaDoorW.PrintWords Go.Proofs.YtbgabhknmpbgiaaDoorW.PrintLast Go.Proofs.YtbgabhknmpbgiaaDoorW.PrintMore
attribute [local go_sem] max2_int min2_int max_two min_two max_three min_three max_four min_four
set_option linter.unusedVariables false
set_option linter.unusedSimpArgs false
def codec_Reader_Signed_1.f (k : Nat) (a0 : ByteArray) (a1 : Int) : Option (Int × Int × Bool) := (codec_raw.f k a0 a1 4).bind fun bt140 => (some (bt140.1, bt140.2.1, bt140.2.2))
set_option maxHeartbeats 8000000 in
set_option maxRecDepth 100000 in
theorem codec_Reader_Signed_1.calls (k : Nat) (a0 : ByteArray) (a1 : Int) (r1 : Int) (r2 : Int) (r3 : Bool) (w : World) (hG : Glob w) (h : codec_Reader_Signed_1.f k a0 a1 = some (r1, r2, r3)) :
    Calls Tryd.prog 76 #[.string a0, .int .i64 a1] w fun e w' => e = .returned (.tuple #[.int .u64 r1, .int .i64 r2, .bool r3]) ∧ Below w.heap.size w w' := by
  have HG := Aside0.mk hG
  clear hG
  have HB := Aside0.mk (Below.refl w.heap.size w)
  have H : ((codec_raw.f k a0 a1 4).bind fun bt140 => (some (bt140.1, bt140.2.1, bt140.2.2))) = some (r1, r2, r3) := h
  clear h
  replace H := Option.bind_eq_some_iff.mp H
  obtain ⟨⟨t140, t141, t142⟩, A30, H⟩ := H
  replace H : (some (t140, t141, t142)) = some (r1, r2, r3) := H
  have A3 := Aside0.mk A30
  clear A30
  simp only [Option.some.injEq, Prod.mk.injEq] at H
  obtain ⟨rfl, rfl, rfl⟩ := H
  go_enter Tryd.func76, Tryd.ntmps76
  go_wp2_with (first | ((with_reducible refine gate_callee (f := 75) rfl ?_); refine goesL_ (some 9) rfl rfl Tryd.func75 (by kernel_rfl) rfl #[.string a0, .int .i64 a1, .int .i64 4] rfl (by (try simp only [List.map_toArray, List.map_cons, List.map_nil]); first | done | rfl | (simp only [List.length_drop, List.length_take]; rfl)) ?_; (with_reducible refine (codec_raw.calls k a0 a1 4 t140 t141 t142 _ ?side99  A3.out).mono ?_); (case side99 => first | exact HG.out | exact Glob.below HG.out (by repeat (first | (with_reducible first | exact HB.out | apply below_alloc | apply pw_below_drewN | apply below_drew1) | exact HB.out))); rintro e w4 ⟨rfl, hb⟩; refine ⟨_, rfl, ?_⟩; have n0_ := Aside0.mk (below_step (by repeat (first | (with_reducible first | exact HB.out | apply below_alloc | apply pw_below_drewN | apply below_drew1) | exact HB.out)) hb); clear HB; have HB := n0_; clear n0_; (try clear hb); (try clear hb2); (try clear hk); (try clear hi)))
  go_ret3
  exact ⟨by first | rfl | (simp [errW_none, errW_some] <;> rfl) | (simp [*, errW_none, errW_some] <;> rfl), by repeat (first | (with_reducible first | exact HB.out | apply below_alloc | apply pw_below_drewN | apply below_drew1) | exact HB.out)⟩
end Go.Proofs.YtbgabhknmpbgiaaDoor.S
end
section
namespace Go.Proofs.YtbgabhknmpbgiaaDoor.S
open Go.RowKit Go.Proofs.YtbgabhknmpbgiaaDoorW.PrintWords Go.Proofs.YtbgabhknmpbgiaaDoorW.PrintLast Go.Proofs.YtbgabhknmpbgiaaDoorW.PrintMore
attribute [local go_sem] max2_int min2_int max_two min_two max_three min_three max_four min_four
set_option linter.unusedVariables false
set_option linter.unusedSimpArgs false
def codec_Reader_Signed.f (k : Nat) (s0_0 : ByteArray) (s0_1 : Int) (s0_2 : Int) : Option (Int × ByteArray × Int × Int) := if s0_2 = 0 then ((codec_Reader_Signed_1.f k s0_0 s0_1).bind fun bt143 => (if bt143.2.2 = true then (some (wrap64 (bt143.1), s0_0, bt143.2.1, s0_2)) else (some (0, s0_0, s0_1, 2)))) else (some (0, s0_0, s0_1, s0_2))
def codec_Reader_Signed.T73004 : Bool × List (List Nat × List Nat) := (true, [([], []), ([], []), ([1], [1]), ([2], [2]), ([3], [3]), ([], []), ([5], [5]), ([6], [6]), ([7], [7]), ([0, 4, 8], [0, 4, 8]), ([9], [9]), ([10], [10]), ([10], [10]), ([10], [10]), ([11, 9, 0, 1, 2, 3, 4, 5, 6, 7, 8, 9, 10, 11], [11]), ([12, 14, 0, 1, 2, 3, 4, 5, 6, 7, 8, 9, 10, 11, 12, 14], [12]), ([13, 15, 0, 1, 2, 3, 4, 5, 6, 7, 8, 9, 10, 11, 12, 13, 14, 15], [13])])
def codec_Reader_Signed.B73004 : List Nat := [0, 0, 2, 6, 14, 0, 32, 96, 224, 511, 1023, 2047, 2047, 2047, 4095, 24575, 65535]
theorem codec_Reader_Signed.tab73004 : rtab .any (opsOf Tryd.f73 4) = codec_Reader_Signed.T73004 := by kernel_rfl
theorem codec_Reader_Signed.bits73004 : waitsOk codec_Reader_Signed.T73004.2 codec_Reader_Signed.B73004 = true := by kernel_rfl
set_option maxHeartbeats 8000000 in
set_option maxRecDepth 100000 in
theorem codec_Reader_Signed.calls (k : Nat) (g : Nat) (s0_0 : ByteArray) (s0_1 : Int) (s0_2 : Int) (r1 : Int) (r2 : ByteArray) (r3 : Int) (r4 : Int) (w0 w : World) (hG : Glob w0) (hI : IsS119 w0 w g s0_0 s0_1 s0_2) (hB : Below w0.heap.size w0 w) (h : codec_Reader_Signed.f k s0_0 s0_1 s0_2 = some (r1, r2, r3, r4)) :
    Calls Tryd.prog 48 #[.pointer (some ⟨g, 0, none⟩)] w fun e w' => e = .returned (.int .i64 r1) ∧ IsS119 w0 w' g r2 r3 r4 ∧ Below w0.heap.size w0 w' ∧ KeepBut w w' g none := by
  have hmf_ : ∀ (fn : Fn) (first cap : Array Value) (w : World), (Instr.makeFunc fn first cap).run Tryd.prog w = .ok (.func fn first cap) w := fun _ _ _ _ => rfl
  have HG := Aside0.mk hG
  clear hG
  have HI0 := Aside0.mk hI
  have HK := Aside0.mk (KeepBut.refl w g none)
  have HL := Aside0.mk hB.size
  clear hI
  have HW0 := Aside0.mk hB.size
  have HB := Aside0.mk hB
  clear hB
  have H : (if s0_2 = 0 then ((codec_Reader_Signed_1.f k s0_0 s0_1).bind fun bt143 => (if bt143.2.2 = true then (some (wrap64 (bt143.1), s0_0, bt143.2.1, s0_2)) else (some (0, s0_0, s0_1, 2)))) else (some (0, s0_0, s0_1, s0_2))) = some (r1, r2, r3, r4) := h
  clear h
  by_cases c2 : s0_2 = 0
  · rw [if_pos c2] at H
    have c2b0 : (s0_2 == 0) = true := beq_iff_eq.mpr c2
    have c2b1 : (s0_2 != 0) = false := bne_eq_false_iff_eq.mpr c2
    clear c2
    replace H := Option.bind_eq_some_iff.mp H
    obtain ⟨⟨t143, t144, t145⟩, A30, H⟩ := H
    replace H : (if t145 = true then (some (wrap64 (t143), s0_0, t144, s0_2)) else (some (0, s0_0, s0_1, 2))) = some (r1, r2, r3, r4) := H
    have A3 := Aside0.mk A30
    clear A30
    by_cases c4 : t145 = true
    · subst c4
      have H1 : (some (wrap64 (t143), s0_0, t144, s0_2)) = some (r1, r2, r3, r4) := by rw [if_pos rfl] at H; exact H
      clear H
      have H := H1
      clear H1
      simp only [Option.some.injEq, Prod.mk.injEq] at H
      obtain ⟨rfl, rfl, rfl, rfl⟩ := H
      obtain ⟨HGz5, hgz5⟩ := HI0.out
      have hcz5_0 := cellS119_0 HGz5
      have hcz5_1 := cellS119_1 HGz5
      have hcz5_2 := cellS119_2 HGz5
      have hfz5_0 := blk_frozen HGz5 0
      have hfz5_1 := blk_frozen HGz5 1
      have hfz5_2 := blk_frozen HGz5 2
      clear HGz5 hgz5
      go_enter Tryd.func48, Tryd.ntmps48
      try go_wp2_with (first | (go_at_call 73; go_in) | ((try simp only [Exit.inBlock, Exit.then]); refine bodyPost_end (results_none rfl _ _ _) rfl ?_; simp only []; go_at_K))
      have n0_ := Aside0.mk (IsS119.drew HI0.out)
      have n1_ := Aside0.mk (keep_drew HK.out)
      have n2_ := Aside0.mk (below_drew1 HB.out)
      clear HI0
      clear HK
      clear HB
      have HI0 := n0_
      have HK := n1_
      have HB := n2_
      clear n0_ n1_ n2_
      refine start_ (n := 17) (S := fun w' => w'.cell? ⟨g, 0, none⟩ = some (.string s0_0) ∧ w'.cell? ⟨g, 1, none⟩ = some (.int .i64 s0_1) ∧ w'.cell? ⟨g, 2, none⟩ = some (.int .i64 s0_2)) (ds := []) #[Yn, Yn, Yn, Yn, Yn, Yn, Yn, Yn, Yn, Yn, Yn, Yn, Yn, Yn, Yn, Yn, Yn] (by kernel_rfl) rfl rfl ⟨(blk_cell (Aside0.mk HI0.out.1).out 0).trans rfl, (blk_cell (Aside0.mk HI0.out.1).out 1).trans rfl, (blk_cell (Aside0.mk HI0.out.1).out 2).trans rfl⟩ (fun hHeld => ?_); refine with_tabW codec_Reader_Signed.tab73004 codec_Reader_Signed.bits73004 (fun HT_ HW_ => ?_)
      generalize w.drew = w6 at HI0 HK HB hHeld ⊢
      refine pure_ (i := 0) (N := some 16) (v := ?_) (a' := ?_) #[Y, Yn, Yn, Yn, Yn, Yn, Yn, Yn, Yn, Yn, Yn, Yn, Yn, Yn, Yn, Yn, Yn] rfl rfl (any_of HT_.out (by kernel_rfl)) (fun _ _ _ h => h) (Or.inl ⟨by rfl, ?_⟩) ?_ ?_
      rotate_left
      · intro w'
        go_simp
        with_reducible rfl
      rotate_left
      · simp only [Act.put, List.setIfInBounds_toArray, List.set_cons_zero, List.set_cons_succ, i64_w, i32_w]
        rfl
      refine pure_ (i := 1) (N := some 17) (v := ?_) (a' := ?_) #[Y, Y, Yn, Yn, Yn, Yn, Yn, Yn, Yn, Yn, Yn, Yn, Yn, Yn, Yn, Yn, Yn] rfl rfl (any_of HT_.out (by kernel_rfl)) (fun _ _ _ h => h) (Or.inl ⟨by rfl, ?_⟩) ?_ ?_
      rotate_left
      · intro w'
        go_simp
        with_reducible rfl
      rotate_left
      · simp only [Act.put, List.setIfInBounds_toArray, List.set_cons_zero, List.set_cons_succ, i64_w, i32_w]
        rfl
      refine pure_ (i := 2) (N := some 18) (v := ?_) (a' := ?_) #[Y, Y, Y, Yn, Yn, Yn, Yn, Yn, Yn, Yn, Yn, Yn, Yn, Yn, Yn, Yn, Yn] rfl rfl (any_of HT_.out (by kernel_rfl)) (fun _ _ _ h => h) (Or.inl ⟨by rfl, ?_⟩) ?_ ?_
      rotate_left
      · intro w'
        go_simp
        with_reducible rfl
      rotate_left
      · simp only [Act.put, List.setIfInBounds_toArray, List.set_cons_zero, List.set_cons_succ, i64_w, i32_w]
        rfl
      refine pure_ (i := 3) (N := some 19) (v := ?_) (a' := ?_) #[Y, Y, Y, Y, Yn, Yn, Yn, Yn, Yn, Yn, Yn, Yn, Yn, Yn, Yn, Yn, Yn] rfl rfl (any_of HT_.out (by kernel_rfl)) (fun _ _ _ h => h) (Or.inl ⟨by rfl, ?_⟩) ?_ ?_
      rotate_left
      · intro w'
        go_simp
        with_reducible rfl
      rotate_left
      · simp only [Act.put, List.setIfInBounds_toArray, List.set_cons_zero, List.set_cons_succ, i64_w, i32_w]
        rfl
      refine pure_ (i := 5) (N := some 21) (v := ?_) (a' := ?_) #[Y, Y, Y, Y, Yn, Y, Yn, Yn, Yn, Yn, Yn, Yn, Yn, Yn, Yn, Yn, Yn] rfl rfl (any_of HT_.out (by kernel_rfl)) (fun _ _ _ h => h) (Or.inl ⟨by rfl, ?_⟩) ?_ ?_
      rotate_left
      · intro w'
        go_simp
        with_reducible rfl
      rotate_left
      · simp only [Act.put, List.setIfInBounds_toArray, List.set_cons_zero, List.set_cons_succ, i64_w, i32_w]
        rfl
      refine pure_ (i := 6) (N := some 22) (v := ?_) (a' := ?_) #[Y, Y, Y, Y, Yn, Y, Y, Yn, Yn, Yn, Yn, Yn, Yn, Yn, Yn, Yn, Yn] rfl rfl (any_of HT_.out (by kernel_rfl)) (fun _ _ _ h => h) (Or.inl ⟨by rfl, ?_⟩) ?_ ?_
      rotate_left
      · intro w'
        go_simp
        with_reducible rfl
      rotate_left
      · simp only [Act.put, List.setIfInBounds_toArray, List.set_cons_zero, List.set_cons_succ, i64_w, i32_w]
        rfl
      refine pure_ (i := 7) (N := some 23) (v := ?_) (a' := ?_) #[Y, Y, Y, Y, Yn, Y, Y, Y, Yn, Yn, Yn, Yn, Yn, Yn, Yn, Yn, Yn] rfl rfl (any_of HT_.out (by kernel_rfl)) (fun _ _ _ h => h) (Or.inl ⟨by rfl, ?_⟩) ?_ ?_
      rotate_left
      · intro w'
        go_simp
        with_reducible rfl
      rotate_left
      · simp only [Act.put, List.setIfInBounds_toArray, List.set_cons_zero, List.set_cons_succ, i64_w, i32_w]
        rfl
      refine take_ (i := 4) (N := some 20) (v := ?_) (a' := ?_) #[Y, Y, Y, Y, Y, Y, Y, Y, Yn, Yn, Yn, Yn, Yn, Yn, Yn, Yn, Yn] rfl rfl (take_ofW HT_.out HW_.out (by kernel_rfl)) (fun _ _ _ h => h) (Or.inl ⟨by rfl, ?_⟩) hHeld ?_ ?_
      rotate_left
      · rintro w' ⟨s0, s1, s2⟩
        go_simp
        with_reducible rfl
      rotate_left
      · simp only [Act.put, List.setIfInBounds_toArray, List.set_cons_zero, List.set_cons_succ, i64_w, i32_w]
        rfl
      refine take_ (i := 8) (N := some 24) (v := ?_) (a' := ?_) #[Y, Y, Y, Y, Y, Y, Y, Y, Y, Yn, Yn, Yn, Yn, Yn, Yn, Yn, Yn] rfl rfl (take_ofW HT_.out HW_.out (by kernel_rfl)) (fun _ _ _ h => h) (Or.inl ⟨by rfl, ?_⟩) hHeld ?_ ?_
      rotate_left
      · rintro w' ⟨s0, s1, s2⟩
        go_simp
        with_reducible rfl
      rotate_left
      · simp only [Act.put, List.setIfInBounds_toArray, List.set_cons_zero, List.set_cons_succ, i64_w, i32_w]
        rfl
      refine one_ (i := 9) (N := some 25) #[Y, Y, Y, Y, Y, Y, Y, Y, Y, Y, Yn, Yn, Yn, Yn, Yn, Yn, Yn] rfl rfl (one_of HT_.out (by kernel_rfl)) (by decide) (fun K hK => ?_)
      refine goesT_ Tryd.func76 (by kernel_rfl) rfl #[.string s0_0, .int .i64 s0_1] (by rfl) rfl rfl rfl (by (try simp only [List.map_toArray, List.map_cons, List.map_nil]); first | done | rfl | (simp only [List.length_drop, List.length_take]; rfl)) ?_
      with_reducible refine (codec_Reader_Signed_1.calls k s0_0 s0_1 t143 t144 true _ ?side99  A3.out).mono ?_
      (case side99 => first | exact HG.out | exact Glob.below HG.out (by repeat (first | (with_reducible first | exact HB.out | apply below_alloc | apply pw_below_drewN | apply below_drew1 | refine below_set ?_ (IsS119.ge HI0.out)) | exact HB.out)))
      rintro e w7 ⟨rfl, hb⟩
      refine ⟨_, rfl, ?_⟩
      have n0_ := Aside0.mk (IsS119.below (by repeat (first | (with_reducible first | exact HI0.out | apply IsS119.alloc | apply IsS119.drewN | apply IsS119.drew | apply IsS119.set_0 | apply IsS119.set_1 | apply IsS119.set_2) | exact HI0.out)) hb)
      have n1_ := Aside0.mk (KeepBut.trans (by repeat (first | (with_reducible first | exact HK.out | apply KeepBut.set_ | apply keep_drewN | apply keep_drew | apply keep_alloc) | exact HK.out)) (KeepBut.of_below hb g none) (.inl rfl))
      have n2_ := Aside0.mk (below_step (by repeat (first | (with_reducible first | exact HB.out | apply below_alloc | apply pw_below_drewN | apply below_drew1 | refine below_set ?_ (IsS119.ge HI0.out)) | exact HB.out)) hb)
      clear HI0
      clear HK
      clear HB
      have HI0 := n0_
      have HK := n1_
      have HB := n2_
      clear n0_ n1_ n2_
      (try clear hb)
      (try clear hb2)
      (try clear hk)
      (try clear hi)
      refine hK.out _ _ ⟨(blk_cell (Aside0.mk HI0.out.1).out 0).trans rfl, (blk_cell (Aside0.mk HI0.out.1).out 1).trans rfl, (blk_cell (Aside0.mk HI0.out.1).out 2).trans rfl⟩ (fun hHeld => ?_)
      clear hK K
      refine norm_ (a' := ?_) ?_ ?_
      rotate_left
      · show Act.put _ (some 25) _ = _
        simp only [Act.put, List.setIfInBounds_toArray, List.set_cons_zero, List.set_cons_succ, i64_w, i32_w]
        rfl
      refine pure_ (i := 10) (N := some 15) (v := ?_) (a' := ?_) #[Y, Y, Y, Y, Y, Y, Y, Y, Y, Y, Y, Yn, Yn, Yn, Yn, Yn, Yn] rfl rfl (any_of HT_.out (by kernel_rfl)) (fun _ _ _ h => h) (Or.inl ⟨by rfl, ?_⟩) ?_ ?_
      rotate_left
      · intro w'
        go_simp
        with_reducible rfl
      rotate_left
      · simp only [Act.put, List.setIfInBounds_toArray, List.set_cons_zero, List.set_cons_succ, i64_w, i32_w]
        rfl
      refine pure_ (i := 11) (N := some 26) (v := ?_) (a' := ?_) #[Y, Y, Y, Y, Y, Y, Y, Y, Y, Y, Y, Y, Yn, Yn, Yn, Yn, Yn] rfl rfl (any_of HT_.out (by kernel_rfl)) (fun _ _ _ h => h) (Or.inl ⟨by rfl, ?_⟩) ?_ ?_
      rotate_left
      · intro w'
        go_simp
        with_reducible rfl
      rotate_left
      · simp only [Act.put, List.setIfInBounds_toArray, List.set_cons_zero, List.set_cons_succ, i64_w, i32_w]
        rfl
      refine pure_ (i := 12) (N := some 27) (v := ?_) (a' := ?_) #[Y, Y, Y, Y, Y, Y, Y, Y, Y, Y, Y, Y, Y, Yn, Yn, Yn, Yn] rfl rfl (any_of HT_.out (by kernel_rfl)) (fun _ _ _ h => h) (Or.inl ⟨by rfl, ?_⟩) ?_ ?_
      rotate_left
      · intro w'
        go_simp
        with_reducible rfl
      rotate_left
      · simp only [Act.put, List.setIfInBounds_toArray, List.set_cons_zero, List.set_cons_succ, i64_w, i32_w]
        rfl
      refine pure_ (i := 13) (N := some 28) (v := ?_) (a' := ?_) #[Y, Y, Y, Y, Y, Y, Y, Y, Y, Y, Y, Y, Y, Y, Yn, Yn, Yn] rfl rfl (any_of HT_.out (by kernel_rfl)) (fun _ _ _ h => h) (Or.inl ⟨by rfl, ?_⟩) ?_ ?_
      rotate_left
      · intro w'
        go_simp
        with_reducible rfl
      rotate_left
      · simp only [Act.put, List.setIfInBounds_toArray, List.set_cons_zero, List.set_cons_succ, i64_w, i32_w]
        rfl
      refine pure_ (i := 14) (N := some 6) (v := ?_) (a' := ?_) #[Y, Y, Y, Y, Y, Y, Y, Y, Y, Y, Y, Y, Y, Y, Y, Yn, Yn] rfl rfl (any_of HT_.out (by kernel_rfl)) (fun _ _ _ h => h) (Or.inl ⟨by rfl, ?_⟩) ?_ ?_
      rotate_left
      · intro w'
        go_simp
        with_reducible rfl
      rotate_left
      · simp only [Act.put, List.setIfInBounds_toArray, List.set_cons_zero, List.set_cons_succ, i64_w, i32_w]
        rfl
      refine pure_ (i := 15) (N := some 7) (v := ?_) (a' := ?_) #[Y, Y, Y, Y, Y, Y, Y, Y, Y, Y, Y, Y, Y, Y, Y, Y, Yn] rfl rfl (any_of HT_.out (by kernel_rfl)) (fun _ _ _ h => h) (Or.inl ⟨by rfl, ?_⟩) ?_ ?_
      rotate_left
      · intro w'
        go_simp
        with_reducible rfl
      rotate_left
      · simp only [Act.put, List.setIfInBounds_toArray, List.set_cons_zero, List.set_cons_succ, i64_w, i32_w]
        rfl
      refine pure_ (i := 16) (N := some 8) (v := ?_) (a' := ?_) #[Y, Y, Y, Y, Y, Y, Y, Y, Y, Y, Y, Y, Y, Y, Y, Y, Y] rfl rfl (any_of HT_.out (by kernel_rfl)) (fun _ _ _ h => h) (Or.inl ⟨by rfl, ?_⟩) ?_ ?_
      rotate_left
      · intro w'
        go_simp
        with_reducible rfl
      rotate_left
      · simp only [Act.put, List.setIfInBounds_toArray, List.set_cons_zero, List.set_cons_succ, i64_w, i32_w]
        rfl
      refine done_ (done_of HT_.out (by kernel_rfl)) ?_
      obtain ⟨HGz8, hgz8⟩ := HI0.out
      have hcz8_0 := cellS119_0 HGz8
      have hcz8_1 := cellS119_1 HGz8
      have hcz8_2 := cellS119_2 HGz8
      have hfz8_0 := blk_frozen HGz8 0
      have hfz8_1 := blk_frozen HGz8 1
      have hfz8_2 := blk_frozen HGz8 2
      clear HGz8 hgz8
      try go_wp2_with (first | (go_at_call 73; go_in) | ((try simp only [Exit.inBlock, Exit.then]); refine bodyPost_end (results_none rfl _ _ _) rfl ?_; simp only []; go_at_K))
      go_ret
      exact ⟨by first | rfl | (simp [errW_none, errW_some] <;> rfl) | (simp [*, errW_none, errW_some] <;> rfl), by repeat (first | (with_reducible first | exact HI0.out | apply IsS119.alloc | apply IsS119.drewN | apply IsS119.drew | apply IsS119.set_0 | apply IsS119.set_1 | apply IsS119.set_2) | exact HI0.out), by repeat (first | (with_reducible first | exact HB.out | apply below_alloc | apply pw_below_drewN | apply below_drew1 | refine below_set ?_ (IsS119.ge HI0.out)) | exact HB.out), by repeat (first | (with_reducible first | exact HK.out | apply KeepBut.set_ | apply keep_drewN | apply keep_drew | apply keep_alloc) | exact HK.out)⟩
    · replace c4 := Bool.eq_false_iff.mpr c4
      subst c4
      have H1 : (some (0, s0_0, s0_1, 2)) = some (r1, r2, r3, r4) := by rw [if_neg (show ¬ (false = true) by decide)] at H; exact H
      clear H
      have H := H1
      clear H1
      simp only [Option.some.injEq, Prod.mk.injEq] at H
      obtain ⟨rfl, rfl, rfl, rfl⟩ := H
      obtain ⟨HGz9, hgz9⟩ := HI0.out
      have hcz9_0 := cellS119_0 HGz9
      have hcz9_1 := cellS119_1 HGz9
      have hcz9_2 := cellS119_2 HGz9
      have hfz9_0 := blk_frozen HGz9 0
      have hfz9_1 := blk_frozen HGz9 1
      have hfz9_2 := blk_frozen HGz9 2
      clear HGz9 hgz9
      go_enter Tryd.func48, Tryd.ntmps48
      try go_wp2_with (first | (go_at_call 73; go_in) | ((try simp only [Exit.inBlock, Exit.then]); refine bodyPost_end (results_none rfl _ _ _) rfl ?_; simp only []; go_at_K))
      have n0_ := Aside0.mk (IsS119.drew HI0.out)
      have n1_ := Aside0.mk (keep_drew HK.out)
      have n2_ := Aside0.mk (below_drew1 HB.out)
      clear HI0
      clear HK
      clear HB
      have HI0 := n0_
      have HK := n1_
      have HB := n2_
      clear n0_ n1_ n2_
      refine start_ (n := 17) (S := fun w' => w'.cell? ⟨g, 0, none⟩ = some (.string s0_0) ∧ w'.cell? ⟨g, 1, none⟩ = some (.int .i64 s0_1) ∧ w'.cell? ⟨g, 2, none⟩ = some (.int .i64 s0_2)) (ds := []) #[Yn, Yn, Yn, Yn, Yn, Yn, Yn, Yn, Yn, Yn, Yn, Yn, Yn, Yn, Yn, Yn, Yn] (by kernel_rfl) rfl rfl ⟨(blk_cell (Aside0.mk HI0.out.1).out 0).trans rfl, (blk_cell (Aside0.mk HI0.out.1).out 1).trans rfl, (blk_cell (Aside0.mk HI0.out.1).out 2).trans rfl⟩ (fun hHeld => ?_); refine with_tabW codec_Reader_Signed.tab73004 codec_Reader_Signed.bits73004 (fun HT_ HW_ => ?_)
      generalize w.drew = w10 at HI0 HK HB hHeld ⊢
      refine pure_ (i := 0) (N := some 16) (v := ?_) (a' := ?_) #[Y, Yn, Yn, Yn, Yn, Yn, Yn, Yn, Yn, Yn, Yn, Yn, Yn, Yn, Yn, Yn, Yn] rfl rfl (any_of HT_.out (by kernel_rfl)) (fun _ _ _ h => h) (Or.inl ⟨by rfl, ?_⟩) ?_ ?_
      rotate_left
      · intro w'
        go_simp
        with_reducible rfl
      rotate_left
      · simp only [Act.put, List.setIfInBounds_toArray, List.set_cons_zero, List.set_cons_succ, i64_w, i32_w]
        rfl
      refine pure_ (i := 1) (N := some 17) (v := ?_) (a' := ?_) #[Y, Y, Yn, Yn, Yn, Yn, Yn, Yn, Yn, Yn, Yn, Yn, Yn, Yn, Yn, Yn, Yn] rfl rfl (any_of HT_.out (by kernel_rfl)) (fun _ _ _ h => h) (Or.inl ⟨by rfl, ?_⟩) ?_ ?_
      rotate_left
      · intro w'
        go_simp
        with_reducible rfl
      rotate_left
      · simp only [Act.put, List.setIfInBounds_toArray, List.set_cons_zero, List.set_cons_succ, i64_w, i32_w]
        rfl
      refine pure_ (i := 2) (N := some 18) (v := ?_) (a' := ?_) #[Y, Y, Y, Yn, Yn, Yn, Yn, Yn, Yn, Yn, Yn, Yn, Yn, Yn, Yn, Yn, Yn] rfl rfl (any_of HT_.out (by kernel_rfl)) (fun _ _ _ h => h) (Or.inl ⟨by rfl, ?_⟩) ?_ ?_
      rotate_left
      · intro w'
        go_simp
        with_reducible rfl
      rotate_left
      · simp only [Act.put, List.setIfInBounds_toArray, List.set_cons_zero, List.set_cons_succ, i64_w, i32_w]
        rfl
      refine pure_ (i := 3) (N := some 19) (v := ?_) (a' := ?_) #[Y, Y, Y, Y, Yn, Yn, Yn, Yn, Yn, Yn, Yn, Yn, Yn, Yn, Yn, Yn, Yn] rfl rfl (any_of HT_.out (by kernel_rfl)) (fun _ _ _ h => h) (Or.inl ⟨by rfl, ?_⟩) ?_ ?_
      rotate_left
      · intro w'
        go_simp
        with_reducible rfl
      rotate_left
      · simp only [Act.put, List.setIfInBounds_toArray, List.set_cons_zero, List.set_cons_succ, i64_w, i32_w]
        rfl
      refine pure_ (i := 5) (N := some 21) (v := ?_) (a' := ?_) #[Y, Y, Y, Y, Yn, Y, Yn, Yn, Yn, Yn, Yn, Yn, Yn, Yn, Yn, Yn, Yn] rfl rfl (any_of HT_.out (by kernel_rfl)) (fun _ _ _ h => h) (Or.inl ⟨by rfl, ?_⟩) ?_ ?_
      rotate_left
      · intro w'
        go_simp
        with_reducible rfl
      rotate_left
      · simp only [Act.put, List.setIfInBounds_toArray, List.set_cons_zero, List.set_cons_succ, i64_w, i32_w]
        rfl
      refine pure_ (i := 6) (N := some 22) (v := ?_) (a' := ?_) #[Y, Y, Y, Y, Yn, Y, Y, Yn, Yn, Yn, Yn, Yn, Yn, Yn, Yn, Yn, Yn] rfl rfl (any_of HT_.out (by kernel_rfl)) (fun _ _ _ h => h) (Or.inl ⟨by rfl, ?_⟩) ?_ ?_
      rotate_left
      · intro w'
        go_simp
        with_reducible rfl
      rotate_left
      · simp only [Act.put, List.setIfInBounds_toArray, List.set_cons_zero, List.set_cons_succ, i64_w, i32_w]
        rfl
      refine pure_ (i := 7) (N := some 23) (v := ?_) (a' := ?_) #[Y, Y, Y, Y, Yn, Y, Y, Y, Yn, Yn, Yn, Yn, Yn, Yn, Yn, Yn, Yn] rfl rfl (any_of HT_.out (by kernel_rfl)) (fun _ _ _ h => h) (Or.inl ⟨by rfl, ?_⟩) ?_ ?_
      rotate_left
      · intro w'
        go_simp
        with_reducible rfl
      rotate_left
      · simp only [Act.put, List.setIfInBounds_toArray, List.set_cons_zero, List.set_cons_succ, i64_w, i32_w]
        rfl
      refine take_ (i := 4) (N := some 20) (v := ?_) (a' := ?_) #[Y, Y, Y, Y, Y, Y, Y, Y, Yn, Yn, Yn, Yn, Yn, Yn, Yn, Yn, Yn] rfl rfl (take_ofW HT_.out HW_.out (by kernel_rfl)) (fun _ _ _ h => h) (Or.inl ⟨by rfl, ?_⟩) hHeld ?_ ?_
      rotate_left
      · rintro w' ⟨s0, s1, s2⟩
        go_simp
        with_reducible rfl
      rotate_left
      · simp only [Act.put, List.setIfInBounds_toArray, List.set_cons_zero, List.set_cons_succ, i64_w, i32_w]
        rfl
      refine take_ (i := 8) (N := some 24) (v := ?_) (a' := ?_) #[Y, Y, Y, Y, Y, Y, Y, Y, Y, Yn, Yn, Yn, Yn, Yn, Yn, Yn, Yn] rfl rfl (take_ofW HT_.out HW_.out (by kernel_rfl)) (fun _ _ _ h => h) (Or.inl ⟨by rfl, ?_⟩) hHeld ?_ ?_
      rotate_left
      · rintro w' ⟨s0, s1, s2⟩
        go_simp
        with_reducible rfl
      rotate_left
      · simp only [Act.put, List.setIfInBounds_toArray, List.set_cons_zero, List.set_cons_succ, i64_w, i32_w]
        rfl
      refine one_ (i := 9) (N := some 25) #[Y, Y, Y, Y, Y, Y, Y, Y, Y, Y, Yn, Yn, Yn, Yn, Yn, Yn, Yn] rfl rfl (one_of HT_.out (by kernel_rfl)) (by decide) (fun K hK => ?_)
      refine goesT_ Tryd.func76 (by kernel_rfl) rfl #[.string s0_0, .int .i64 s0_1] (by rfl) rfl rfl rfl (by (try simp only [List.map_toArray, List.map_cons, List.map_nil]); first | done | rfl | (simp only [List.length_drop, List.length_take]; rfl)) ?_
      with_reducible refine (codec_Reader_Signed_1.calls k s0_0 s0_1 t143 t144 false _ ?side99  A3.out).mono ?_
      (case side99 => first | exact HG.out | exact Glob.below HG.out (by repeat (first | (with_reducible first | exact HB.out | apply below_alloc | apply pw_below_drewN | apply below_drew1 | refine below_set ?_ (IsS119.ge HI0.out)) | exact HB.out)))
      rintro e w11 ⟨rfl, hb⟩
      refine ⟨_, rfl, ?_⟩
      have n0_ := Aside0.mk (IsS119.below (by repeat (first | (with_reducible first | exact HI0.out | apply IsS119.alloc | apply IsS119.drewN | apply IsS119.drew | apply IsS119.set_0 | apply IsS119.set_1 | apply IsS119.set_2) | exact HI0.out)) hb)
      have n1_ := Aside0.mk (KeepBut.trans (by repeat (first | (with_reducible first | exact HK.out | apply KeepBut.set_ | apply keep_drewN | apply keep_drew | apply keep_alloc) | exact HK.out)) (KeepBut.of_below hb g none) (.inl rfl))
      have n2_ := Aside0.mk (below_step (by repeat (first | (with_reducible first | exact HB.out | apply below_alloc | apply pw_below_drewN | apply below_drew1 | refine below_set ?_ (IsS119.ge HI0.out)) | exact HB.out)) hb)
      clear HI0
      clear HK
      clear HB
      have HI0 := n0_
      have HK := n1_
      have HB := n2_
      clear n0_ n1_ n2_
      (try clear hb)
      (try clear hb2)
      (try clear hk)
      (try clear hi)
      refine hK.out _ _ ⟨(blk_cell (Aside0.mk HI0.out.1).out 0).trans rfl, (blk_cell (Aside0.mk HI0.out.1).out 1).trans rfl, (blk_cell (Aside0.mk HI0.out.1).out 2).trans rfl⟩ (fun hHeld => ?_)
      clear hK K
      refine norm_ (a' := ?_) ?_ ?_
      rotate_left
      · show Act.put _ (some 25) _ = _
        simp only [Act.put, List.setIfInBounds_toArray, List.set_cons_zero, List.set_cons_succ, i64_w, i32_w]
        rfl
      refine pure_ (i := 10) (N := some 15) (v := ?_) (a' := ?_) #[Y, Y, Y, Y, Y, Y, Y, Y, Y, Y, Y, Yn, Yn, Yn, Yn, Yn, Yn] rfl rfl (any_of HT_.out (by kernel_rfl)) (fun _ _ _ h => h) (Or.inl ⟨by rfl, ?_⟩) ?_ ?_
      rotate_left
      · intro w'
        go_simp
        with_reducible rfl
      rotate_left
      · simp only [Act.put, List.setIfInBounds_toArray, List.set_cons_zero, List.set_cons_succ, i64_w, i32_w]
        rfl
      refine pure_ (i := 11) (N := some 26) (v := ?_) (a' := ?_) #[Y, Y, Y, Y, Y, Y, Y, Y, Y, Y, Y, Y, Yn, Yn, Yn, Yn, Yn] rfl rfl (any_of HT_.out (by kernel_rfl)) (fun _ _ _ h => h) (Or.inl ⟨by rfl, ?_⟩) ?_ ?_
      rotate_left
      · intro w'
        go_simp
        with_reducible rfl
      rotate_left
      · simp only [Act.put, List.setIfInBounds_toArray, List.set_cons_zero, List.set_cons_succ, i64_w, i32_w]
        rfl
      refine pure_ (i := 12) (N := some 27) (v := ?_) (a' := ?_) #[Y, Y, Y, Y, Y, Y, Y, Y, Y, Y, Y, Y, Y, Yn, Yn, Yn, Yn] rfl rfl (any_of HT_.out (by kernel_rfl)) (fun _ _ _ h => h) (Or.inl ⟨by rfl, ?_⟩) ?_ ?_
      rotate_left
      · intro w'
        go_simp
        with_reducible rfl
      rotate_left
      · simp only [Act.put, List.setIfInBounds_toArray, List.set_cons_zero, List.set_cons_succ, i64_w, i32_w]
        rfl
      refine pure_ (i := 13) (N := some 28) (v := ?_) (a' := ?_) #[Y, Y, Y, Y, Y, Y, Y, Y, Y, Y, Y, Y, Y, Y, Yn, Yn, Yn] rfl rfl (any_of HT_.out (by kernel_rfl)) (fun _ _ _ h => h) (Or.inl ⟨by rfl, ?_⟩) ?_ ?_
      rotate_left
      · intro w'
        go_simp
        with_reducible rfl
      rotate_left
      · simp only [Act.put, List.setIfInBounds_toArray, List.set_cons_zero, List.set_cons_succ, i64_w, i32_w]
        rfl
      refine pure_ (i := 14) (N := some 6) (v := ?_) (a' := ?_) #[Y, Y, Y, Y, Y, Y, Y, Y, Y, Y, Y, Y, Y, Y, Y, Yn, Yn] rfl rfl (any_of HT_.out (by kernel_rfl)) (fun _ _ _ h => h) (Or.inl ⟨by rfl, ?_⟩) ?_ ?_
      rotate_left
      · intro w'
        go_simp
        with_reducible rfl
      rotate_left
      · simp only [Act.put, List.setIfInBounds_toArray, List.set_cons_zero, List.set_cons_succ, i64_w, i32_w]
        rfl
      refine pure_ (i := 15) (N := some 7) (v := ?_) (a' := ?_) #[Y, Y, Y, Y, Y, Y, Y, Y, Y, Y, Y, Y, Y, Y, Y, Y, Yn] rfl rfl (any_of HT_.out (by kernel_rfl)) (fun _ _ _ h => h) (Or.inl ⟨by rfl, ?_⟩) ?_ ?_
      rotate_left
      · intro w'
        go_simp
        with_reducible rfl
      rotate_left
      · simp only [Act.put, List.setIfInBounds_toArray, List.set_cons_zero, List.set_cons_succ, i64_w, i32_w]
        rfl
      refine pure_ (i := 16) (N := some 8) (v := ?_) (a' := ?_) #[Y, Y, Y, Y, Y, Y, Y, Y, Y, Y, Y, Y, Y, Y, Y, Y, Y] rfl rfl (any_of HT_.out (by kernel_rfl)) (fun _ _ _ h => h) (Or.inl ⟨by rfl, ?_⟩) ?_ ?_
      rotate_left
      · intro w'
        go_simp
        with_reducible rfl
      rotate_left
      · simp only [Act.put, List.setIfInBounds_toArray, List.set_cons_zero, List.set_cons_succ, i64_w, i32_w]
        rfl
      refine done_ (done_of HT_.out (by kernel_rfl)) ?_
      obtain ⟨HGz12, hgz12⟩ := HI0.out
      have hcz12_0 := cellS119_0 HGz12
      have hcz12_1 := cellS119_1 HGz12
      have hcz12_2 := cellS119_2 HGz12
      have hfz12_0 := blk_frozen HGz12 0
      have hfz12_1 := blk_frozen HGz12 1
      have hfz12_2 := blk_frozen HGz12 2
      clear HGz12 hgz12
      try go_wp2_with (first | (go_at_call 73; go_in) | ((try simp only [Exit.inBlock, Exit.then]); refine bodyPost_end (results_none rfl _ _ _) rfl ?_; simp only []; go_at_K))
      go_ret
      exact ⟨by first | rfl | (simp [errW_none, errW_some] <;> rfl) | (simp [*, errW_none, errW_some] <;> rfl), by repeat (first | (with_reducible first | exact HI0.out | apply IsS119.alloc | apply IsS119.drewN | apply IsS119.drew | apply IsS119.set_0 | apply IsS119.set_1 | apply IsS119.set_2) | exact HI0.out), by repeat (first | (with_reducible first | exact HB.out | apply below_alloc | apply pw_below_drewN | apply below_drew1 | refine below_set ?_ (IsS119.ge HI0.out)) | exact HB.out), by repeat (first | (with_reducible first | exact HK.out | apply KeepBut.set_ | apply keep_drewN | apply keep_drew | apply keep_alloc) | exact HK.out)⟩
  · rw [if_neg c2] at H
    have c2b0 : (s0_2 == 0) = false := beq_eq_false_iff_ne.mpr c2
    have c2b1 : (s0_2 != 0) = true := bne_iff_ne.mpr c2
    simp only [Option.some.injEq, Prod.mk.injEq] at H
    obtain ⟨rfl, rfl, rfl, rfl⟩ := H
    obtain ⟨HGz13, hgz13⟩ := HI0.out
    have hcz13_0 := cellS119_0 HGz13
    have hcz13_1 := cellS119_1 HGz13
    have hcz13_2 := cellS119_2 HGz13
    have hfz13_0 := blk_frozen HGz13 0
    have hfz13_1 := blk_frozen HGz13 1
    have hfz13_2 := blk_frozen HGz13 2
    clear HGz13 hgz13
    go_enter Tryd.func48, Tryd.ntmps48
    go_wp2_with (first | (go_at_call 73; go_in) | ((try simp only [Exit.inBlock, Exit.then]); refine bodyPost_end (results_none rfl _ _ _) rfl ?_; simp only []; go_at_K))
    go_ret
    exact ⟨by first | rfl | (simp [errW_none, errW_some] <;> rfl) | (simp [*, errW_none, errW_some] <;> rfl), by repeat (first | (with_reducible first | exact HI0.out | apply IsS119.alloc | apply IsS119.drewN | apply IsS119.drew | apply IsS119.set_0 | apply IsS119.set_1 | apply IsS119.set_2) | exact HI0.out), by repeat (first | (with_reducible first | exact HB.out | apply below_alloc | apply pw_below_drewN | apply below_drew1 | refine below_set ?_ (IsS119.ge HI0.out)) | exact HB.out), by repeat (first | (with_reducible first | exact HK.out | apply KeepBut.set_ | apply keep_drewN | apply keep_drew | apply keep_alloc) | exact HK.out)⟩
end Go.Proofs.YtbgabhknmpbgiaaDoor.S
end
section
namespace Go.Proofs.YtbgabhknmpbgiaaDoor.S
open Go.RowKit Go.Proofs.YtbgabhknmpbgiaaDoorW.PrintWords Go.Proofs.YtbgabhknmpbgiaaDoorW.PrintLast Go.Proofs.YtbgabhknmpbgiaaDoorW.PrintMore
attribute [local go_sem] max2_int min2_int max_two min_two max_three min_three max_four min_four
set_option linter.unusedVariables false
set_option linter.unusedSimpArgs false
def codec_Reader_Bool_1.f (k : Nat) (a0 : ByteArray) (a1 : Int) : Option (Bool × Int × Bool) := (codec_kind.f k a0 a1).bind fun t146 => (if t146 = 2 then (if 0 ≤ a1 then (if a1 < (a0.size : Int) then (some (((bt a0 a1) == 2), wrap64 (a1 + 1), true)) else (none)) else (none)) else (some (false, 0, false)))
set_option maxHeartbeats 8000000 in
set_option maxRecDepth 100000 in
theorem codec_Reader_Bool_1.calls (k : Nat) (a0 : ByteArray) (a1 : Int) (r1 : Bool) (r2 : Int) (r3 : Bool) (w : World) (hG : Glob w) (h : codec_Reader_Bool_1.f k a0 a1 = some (r1, r2, r3)) :
    Calls Tryd.prog 78 #[.string a0, .int .i64 a1] w fun e w' => e = .returned (.tuple #[.bool r1, .int .i64 r2, .bool r3]) ∧ Drawn0 w w' := by
  have HG := Aside0.mk hG
  clear hG
  have H : ((codec_kind.f k a0 a1).bind fun t146 => (if t146 = 2 then (if 0 ≤ a1 then (if a1 < (a0.size : Int) then (some (((bt a0 a1) == 2), wrap64 (a1 + 1), true)) else (none)) else (none)) else (some (false, 0, false)))) = some (r1, r2, r3) := h
  clear h
  replace H := Option.bind_eq_some_iff.mp H
  obtain ⟨t146, A30, H⟩ := H
  replace H : (if t146 = 2 then (if 0 ≤ a1 then (if a1 < (a0.size : Int) then (some (((bt a0 a1) == 2), wrap64 (a1 + 1), true)) else (none)) else (none)) else (some (false, 0, false))) = some (r1, r2, r3) := H
  have A3 := Aside0.mk A30
  clear A30
  by_cases c4 : t146 = 2
  · rw [if_pos c4] at H
    have c4b0 : (t146 == 2) = true := beq_iff_eq.mpr c4
    have c4b1 : (t146 != 2) = false := bne_eq_false_iff_eq.mpr c4
    clear c4
    by_cases c5 : 0 ≤ a1
    · rw [if_pos c5] at H
      have c5b0 : decide (0 ≤ a1) = true := decide_eq_true c5
      clear c5
      by_cases c6 : a1 < (a0.size : Int)
      · rw [if_pos c6] at H
        have c6b0 : decide (a1 < (a0.size : Int)) = true := decide_eq_true c6
        clear c6
        simp only [Option.some.injEq, Prod.mk.injEq] at H
        obtain ⟨rfl, rfl, rfl⟩ := H
        go_enter Tryd.func78, Tryd.ntmps78
        go_wp2_with (first | ((with_reducible refine gate_callee (f := 79) rfl ?_); refine goesL_ (some 9) rfl rfl Tryd.func79 (by kernel_rfl) rfl #[.string a0, .int .i64 a1] rfl (by (try simp only [List.map_toArray, List.map_cons, List.map_nil]); first | done | rfl | (simp only [List.length_drop, List.length_take]; rfl)) ?_; (with_reducible refine (codec_kind.calls k a0 a1 t146 _ ?side99  A3.out).mono ?_); (case side99 => first | exact HG.out | exact Glob.below HG.out (by repeat (first | (with_reducible first | exact HB.out | apply below_alloc | apply pw_below_drewN | apply below_drew1) | exact HB.out))); rintro e w' ⟨rfl, ⟨nd, rfl⟩⟩; refine ⟨_, rfl, ?_⟩; have p7 : 0 ≤ (a1 : Int) := of_decide_eq_true (by first | (with_reducible assumption) | assumption); have q7 : a1 < (a0.size : Int) := of_decide_eq_true (by first | (with_reducible assumption) | assumption); have hx7 := bt_at a0 a1; replace p7 := eq_true p7; replace q7 := eq_true q7))
        go_ret3
        exact ⟨by first | rfl | (simp; done) | (simp [*]; done), by repeat (first | exact Drawn0.refl _ | apply Drawn0.step)⟩
      · rw [if_neg c6] at H
        exact absurd H (by simp)
    · rw [if_neg c5] at H
      exact absurd H (by simp)
  · rw [if_neg c4] at H
    have c4b0 : (t146 == 2) = false := beq_eq_false_iff_ne.mpr c4
    have c4b1 : (t146 != 2) = true := bne_iff_ne.mpr c4
    simp only [Option.some.injEq, Prod.mk.injEq] at H
    obtain ⟨rfl, rfl, rfl⟩ := H
    go_enter Tryd.func78, Tryd.ntmps78
    go_wp2_with (first | ((with_reducible refine gate_callee (f := 79) rfl ?_); refine goesL_ (some 9) rfl rfl Tryd.func79 (by kernel_rfl) rfl #[.string a0, .int .i64 a1] rfl (by (try simp only [List.map_toArray, List.map_cons, List.map_nil]); first | done | rfl | (simp only [List.length_drop, List.length_take]; rfl)) ?_; (with_reducible refine (codec_kind.calls k a0 a1 t146 _ ?side99  A3.out).mono ?_); (case side99 => first | exact HG.out | exact Glob.below HG.out (by repeat (first | (with_reducible first | exact HB.out | apply below_alloc | apply pw_below_drewN | apply below_drew1) | exact HB.out))); rintro e w' ⟨rfl, ⟨nd, rfl⟩⟩; refine ⟨_, rfl, ?_⟩))
    go_ret3
    exact ⟨by first | rfl | (simp; done) | (simp [*]; done), by repeat (first | exact Drawn0.refl _ | apply Drawn0.step)⟩
end Go.Proofs.YtbgabhknmpbgiaaDoor.S
end
