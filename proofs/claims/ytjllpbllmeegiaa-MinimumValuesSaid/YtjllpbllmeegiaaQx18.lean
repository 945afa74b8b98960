/- Functions of the program as Lean functions, and that the machine's calls come to what these say (written by a program out of the translation); no condition. -/
import Derived.Test.YtjllpbllmeegiaaQx0
import Derived.Test.YtjllpbllmeegiaaQx1
import Derived.Test.YtjllpbllmeegiaaQx14
import Derived.Test.YtjllpbllmeegiaaQx17
namespace Go.Proofs.Ytjllpbllmeegiaa.Q
open Go.RowKit Go.Proofs.YtjllpbllmeegiaaW.PrintWords Go.Proofs.YtjllpbllmeegiaaW.PrintLast Go.Proofs.YtjllpbllmeegiaaW.PrintMore
attribute [local go_sem] max2_int min2_int max_two min_two max_three min_three max_four min_four   -- for this text's walks alone
set_option linter.unusedVariables false
set_option linter.unusedSimpArgs false

attribute [local go_sem high] eqA24
/-! ### plenumref14_Next: function 11 -/
mutual
def plenumref14_Next.j0 : Nat → Int → Bool → ByteArray → Int → Int → ByteArray → Int → Int → Int → List ByteArray → Int → Int → Int → Int → Int → Int → Int → Int → Int → Int → Option (Int × Int × Int × Int)
  | 0, _, _, _, _, _, _, _, _, _, _, _, _, _, _, _, _, _, _, _, _ => none
  | k + 1, x3, x21, x178000, x178001, x178002, x178003, x178004, x178005, x178006, x178007, x178008, x178009, x178010, x178011, x179000, x179001, x179002, x180000, x180001, x180002 => if x21 = true then (some (0, 0, 0, 11)) else (if x180000 < 1 then (plenumref14_Next.j1 k x3 true x178000 x178001 x178002 x178003 x178004 x178005 x178006 x178007 x178008 x178009 x178010 x178011 x179000 x179001 x179002 x180000 x180001 x180002) else (plenumref14_Next.j1 k x3 (decide (x180000 > 17)) x178000 x178001 x178002 x178003 x178004 x178005 x178006 x178007 x178008 x178009 x178010 x178011 x179000 x179001 x179002 x180000 x180001 x180002))
def plenumref14_Next.j1 : Nat → Int → Bool → ByteArray → Int → Int → ByteArray → Int → Int → Int → List ByteArray → Int → Int → Int → Int → Int → Int → Int → Int → Int → Int → Option (Int × Int × Int × Int)
  | 0, _, _, _, _, _, _, _, _, _, _, _, _, _, _, _, _, _, _, _, _ => none
  | k + 1, x3, x30, x178000, x178001, x178002, x178003, x178004, x178005, x178006, x178007, x178008, x178009, x178010, x178011, x179000, x179001, x179002, x180000, x180001, x180002 => if x30 = true then (some (0, 0, 0, 6)) else (if x3 < x179002 then (some (0, 0, 0, 8)) else ((plenumref14_Held.f k x178000 x178001 x178002 x178003 x178004 x178005 x178006 x178007 x178008 x178009 x178010 x178011 x179000 x179001 x179002 x3).bind fun t183 => (if t183 = true then (if x180000 > 5 then (some (x179000, x179001, x179002, 0)) else (if (x180001 == x179000 && (x180002 == x179001)) = true then (some (x179000, x179001, x179002, 0)) else (some (x180001, x180002, x3, 0)))) else (if (x180001 == x179000 && (x180002 == x179001)) = true then (some (x179000, x179001, x179002, 0)) else (some (x180001, x180002, x3, 0))))))
end
def plenumref14_Next.f (k : Nat) (a0_0 : ByteArray) (a0_1 : Int) (a0_2 : Int) (a0_3 : ByteArray) (a0_4 : Int) (a0_5 : Int) (a0_6 : Int) (l0_7 : List ByteArray) (a0_8 : Int) (a0_9 : Int) (a0_10 : Int) (a0_11 : Int) (a1_0 : Int) (a1_1 : Int) (a1_2 : Int) (a2_0 : Int) (a2_1 : Int) (a2_2 : Int) (a3 : Int) : Option (Int × Int × Int × Int) := (plenumref14_Is.f a0_0 a0_1 a0_2 a0_3 a0_4 a0_5 a0_6 l0_7 a0_8 a0_9 a0_10 a0_11 a1_0 a1_1).bind fun t181 => (if t181 = true then ((plenumref14_Is.f a0_0 a0_1 a0_2 a0_3 a0_4 a0_5 a0_6 l0_7 a0_8 a0_9 a0_10 a0_11 a2_1 a2_2).bind fun t182 => (plenumref14_Next.j0 k a3 (!t182) a0_0 a0_1 a0_2 a0_3 a0_4 a0_5 a0_6 l0_7 a0_8 a0_9 a0_10 a0_11 a1_0 a1_1 a1_2 a2_0 a2_1 a2_2)) else (plenumref14_Next.j0 k a3 true a0_0 a0_1 a0_2 a0_3 a0_4 a0_5 a0_6 l0_7 a0_8 a0_9 a0_10 a0_11 a1_0 a1_1 a1_2 a2_0 a2_1 a2_2))
theorem plenumref14_Next.mono_l : ∀ k, (∀ y0 y1 y2 y3 y4 y5 y6 y7 y8 y9 y10 y11 y12 y13 y14 y15 y16 y17 y18 y19, LeO (plenumref14_Next.j0 k y0 y1 y2 y3 y4 y5 y6 y7 y8 y9 y10 y11 y12 y13 y14 y15 y16 y17 y18 y19) (plenumref14_Next.j0 (k + 1) y0 y1 y2 y3 y4 y5 y6 y7 y8 y9 y10 y11 y12 y13 y14 y15 y16 y17 y18 y19)) ∧ (∀ y0 y1 y2 y3 y4 y5 y6 y7 y8 y9 y10 y11 y12 y13 y14 y15 y16 y17 y18 y19, LeO (plenumref14_Next.j1 k y0 y1 y2 y3 y4 y5 y6 y7 y8 y9 y10 y11 y12 y13 y14 y15 y16 y17 y18 y19) (plenumref14_Next.j1 (k + 1) y0 y1 y2 y3 y4 y5 y6 y7 y8 y9 y10 y11 y12 y13 y14 y15 y16 y17 y18 y19))
  | 0 => ⟨fun _ _ _ _ _ _ _ _ _ _ _ _ _ _ _ _ _ _ _ _ r h => by simp [plenumref14_Next.j0] at h, fun _ _ _ _ _ _ _ _ _ _ _ _ _ _ _ _ _ _ _ _ r h => by simp [plenumref14_Next.j1] at h⟩
  | k + 1 => by
    obtain ⟨ih0, ih1⟩ := plenumref14_Next.mono_l k
    refine ⟨?_, ?_⟩
    · intro y0 y1 y2 y3 y4 y5 y6 y7 y8 y9 y10 y11 y12 y13 y14 y15 y16 y17 y18 y19
      unfold plenumref14_Next.j0
      repeat' first
      | (with_reducible exact ih0 _ _ _ _ _ _ _ _ _ _ _ _ _ _ _ _ _ _ _ _)
      | (with_reducible exact ih1 _ _ _ _ _ _ _ _ _ _ _ _ _ _ _ _ _ _ _ _)
      | (with_reducible exact plenumref14_Held.mono _ _ _ _ _ _ _ _ _ _ _ _ _ _ _ _ _)
      | (with_reducible exact LeO.refl _)
      | (with_reducible exact LeO.none _)
      | (with_reducible refine LeO.ite ?_ ?_)
      | (with_reducible refine LeO.bind ?_ (fun _ => ?_))
      | exact ih0 _ _ _ _ _ _ _ _ _ _ _ _ _ _ _ _ _ _ _ _
      | exact ih1 _ _ _ _ _ _ _ _ _ _ _ _ _ _ _ _ _ _ _ _
      | exact plenumref14_Held.mono _ _ _ _ _ _ _ _ _ _ _ _ _ _ _ _ _
      | exact LeO.none _
      | refine LeO.ite ?_ ?_
      | refine LeO.bind ?_ (fun _ => ?_)
    · intro y0 y1 y2 y3 y4 y5 y6 y7 y8 y9 y10 y11 y12 y13 y14 y15 y16 y17 y18 y19
      unfold plenumref14_Next.j1
      repeat' first
      | (with_reducible exact ih0 _ _ _ _ _ _ _ _ _ _ _ _ _ _ _ _ _ _ _ _)
      | (with_reducible exact ih1 _ _ _ _ _ _ _ _ _ _ _ _ _ _ _ _ _ _ _ _)
      | (with_reducible exact plenumref14_Held.mono _ _ _ _ _ _ _ _ _ _ _ _ _ _ _ _ _)
      | (with_reducible exact LeO.refl _)
      | (with_reducible exact LeO.none _)
      | (with_reducible refine LeO.ite ?_ ?_)
      | (with_reducible refine LeO.bind ?_ (fun _ => ?_))
      | exact ih0 _ _ _ _ _ _ _ _ _ _ _ _ _ _ _ _ _ _ _ _
      | exact ih1 _ _ _ _ _ _ _ _ _ _ _ _ _ _ _ _ _ _ _ _
      | exact plenumref14_Held.mono _ _ _ _ _ _ _ _ _ _ _ _ _ _ _ _ _
      | exact LeO.none _
      | refine LeO.ite ?_ ?_
      | refine LeO.bind ?_ (fun _ => ?_)
theorem plenumref14_Next.mono : ∀ a0 a1 a2 a3 a4 a5 a6 a7 a8 a9 a10 a11 a12 a13 a14 a15 a16 a17 a18 k, LeO (plenumref14_Next.f k a0 a1 a2 a3 a4 a5 a6 a7 a8 a9 a10 a11 a12 a13 a14 a15 a16 a17 a18) (plenumref14_Next.f (k + 1) a0 a1 a2 a3 a4 a5 a6 a7 a8 a9 a10 a11 a12 a13 a14 a15 a16 a17 a18) := by
  intro a0 a1 a2 a3 a4 a5 a6 a7 a8 a9 a10 a11 a12 a13 a14 a15 a16 a17 a18 k
  obtain ⟨ih0, ih1⟩ := plenumref14_Next.mono_l k
  unfold plenumref14_Next.f
  repeat' first
      | (with_reducible exact ih0 _ _ _ _ _ _ _ _ _ _ _ _ _ _ _ _ _ _ _ _)
      | (with_reducible exact ih1 _ _ _ _ _ _ _ _ _ _ _ _ _ _ _ _ _ _ _ _)
      | (with_reducible exact plenumref14_Held.mono _ _ _ _ _ _ _ _ _ _ _ _ _ _ _ _ _)
      | (with_reducible exact LeO.refl _)
      | (with_reducible exact LeO.none _)
      | (with_reducible refine LeO.ite ?_ ?_)
      | (with_reducible refine LeO.bind ?_ (fun _ => ?_))
      | exact ih0 _ _ _ _ _ _ _ _ _ _ _ _ _ _ _ _ _ _ _ _
      | exact ih1 _ _ _ _ _ _ _ _ _ _ _ _ _ _ _ _ _ _ _ _
      | exact plenumref14_Held.mono _ _ _ _ _ _ _ _ _ _ _ _ _ _ _ _ _
      | exact LeO.none _
      | refine LeO.ite ?_ ?_
      | refine LeO.bind ?_ (fun _ => ?_)
set_option maxHeartbeats 8000000 in
set_option maxRecDepth 100000 in
theorem plenumref14_Next.calls (k : Nat) (a0_0 : ByteArray) (a0_1 : Int) (a0_2 : Int) (a0_3 : ByteArray) (a0_4 : Int) (a0_5 : Int) (a0_6 : Int) (A0_7 : Option Addr) (c0_7 : Nat) (l0_7 : List ByteArray) (a0_8 : Int) (a0_9 : Int) (a0_10 : Int) (a0_11 : Int) (a1_0 : Int) (a1_1 : Int) (a1_2 : Int) (a2_0 : Int) (a2_1 : Int) (a2_2 : Int) (a3 : Int) (r1 : Int) (r2 : Int) (r3 : Int) (r4 : Int) (w : World) (hr0_7 : Kd.C Kd.string w A0_7 l0_7.length l0_7) (hc0_7 : l0_7.length ≤ c0_7) (h : plenumref14_Next.f k a0_0 a0_1 a0_2 a0_3 a0_4 a0_5 a0_6 l0_7 a0_8 a0_9 a0_10 a0_11 a1_0 a1_1 a1_2 a2_0 a2_1 a2_2 a3 = some (r1, r2, r3, r4)) :
    Calls Try.prog 11 #[.agg #[.string a0_0, .int .i64 a0_1, .int .i64 a0_2, .string a0_3, .int .i64 a0_4, .int .i64 a0_5, .int .i64 a0_6, .slice A0_7 l0_7.length c0_7, .int .i64 a0_8, .int .i64 a0_9, .int .i64 a0_10, .int .i64 a0_11], .agg #[.int .i64 a1_0, .int .i64 a1_1, .int .i64 a1_2], .agg #[.int .i64 a2_0, .int .i64 a2_1, .int .i64 a2_2], .int .i64 a3] w fun e w' => e = .returned (.tuple #[.agg #[.int .i64 r1, .int .i64 r2, .int .i64 r3], .int .i64 r4]) ∧ Below w.heap.size w w' := by
  have hu26 := Try.underlying26
  have hu28 := Try.underlying28
  have hu30 := Try.underlying30
  have hu24 := Try.underlying24
  have HR0_7 := Aside0.mk hr0_7
  have HC0_7 := Aside0.mk hc0_7
  clear hr0_7 hc0_7
  have HB := Aside0.mk (Below.refl w.heap.size w)
  have H : ((plenumref14_Is.f a0_0 a0_1 a0_2 a0_3 a0_4 a0_5 a0_6 l0_7 a0_8 a0_9 a0_10 a0_11 a1_0 a1_1).bind fun t181 => (if t181 = true then ((plenumref14_Is.f a0_0 a0_1 a0_2 a0_3 a0_4 a0_5 a0_6 l0_7 a0_8 a0_9 a0_10 a0_11 a2_1 a2_2).bind fun t182 => (plenumref14_Next.j0 k a3 (!t182) a0_0 a0_1 a0_2 a0_3 a0_4 a0_5 a0_6 l0_7 a0_8 a0_9 a0_10 a0_11 a1_0 a1_1 a1_2 a2_0 a2_1 a2_2)) else (plenumref14_Next.j0 k a3 true a0_0 a0_1 a0_2 a0_3 a0_4 a0_5 a0_6 l0_7 a0_8 a0_9 a0_10 a0_11 a1_0 a1_1 a1_2 a2_0 a2_1 a2_2))) = some (r1, r2, r3, r4) := h
  clear h
  have HC5 := Aside0.mk H
  clear H
  go_enter Try.func11, Try.ntmps11
  go_upto_region 1 with (first | ((with_reducible refine gate_dst (N := 4) rfl ?_); refine box_event ?hg (N := 4) ?hd (cs := #[.string a0_0, .int .i64 a0_1, .int .i64 a0_2, .string a0_3, .int .i64 a0_4, .int .i64 a0_5, .int .i64 a0_6, .slice A0_7 l0_7.length c0_7, .int .i64 a0_8, .int .i64 a0_9, .int .i64 a0_10, .int .i64 a0_11]) (t := 26) ?hr ?_; (case hd => rfl); (case hg => rfl); (case hr => first | (go_simp; done) | (go_simp; rfl)); intro gb177 hg w6 hbox hb; have n0_ := Aside0.mk (below_step (by repeat (first | (with_reducible first | exact HB.out | apply below_alloc | apply pw_below_drewN | apply below_drew1) | exact HB.out)) hb); have n1_ := Aside0.mk (hbox); have n2_ := Aside0.mk ((by rw [hg]; exact (below_size (by repeat (first | (with_reducible first | exact HB.out | apply below_alloc | apply pw_below_drewN | apply below_drew1) | exact HB.out))) : w.heap.size ≤ gb177)); have n3_ := Aside0.mk ((by rw [hg]; exact (below_size (by repeat (first | (with_reducible first | exact HB.out | apply below_alloc | apply pw_below_drewN | apply below_drew1) | exact HB.out))) : w.heap.size ≤ gb177)); clear HB; have HB := n0_; have BK177 := n1_; have GW177 := n2_; have GE177 := n3_; clear n0_ n1_ n2_ n3_; clear hb hbox hg) | ((with_reducible refine gate_dst (N := 5) rfl ?_); refine box_event ?hg (N := 5) ?hd (cs := #[.int .i64 a1_0, .int .i64 a1_1, .int .i64 a1_2]) (t := 28) ?hr ?_; (case hd => rfl); (case hg => rfl); (case hr => first | (go_simp; done) | (go_simp; rfl)); intro gb178 hg w7 hbox hb; have n0_ := Aside0.mk (blk_below (g := gb177) (o := .cells #[.string a0_0, .int .i64 a0_1, .int .i64 a0_2, .string a0_3, .int .i64 a0_4, .int .i64 a0_5, .int .i64 a0_6, .slice A0_7 l0_7.length c0_7, .int .i64 a0_8, .int .i64 a0_9, .int .i64 a0_10, .int .i64 a0_11] 26 (0, 0)) (by (with_reducible repeat (first | refine blk_drewN ?_ _ | refine blk_drew ?_ | refine blk_alloc ?_ _)); exact BK177.out) hb); have n1_ := Aside0.mk (below_step (by repeat (first | (with_reducible first | exact HB.out | apply below_alloc | apply pw_below_drewN | apply below_drew1 | refine below_set ?_ GE177.out) | exact HB.out)) hb); have n2_ := Aside0.mk (hbox); have n3_ := Aside0.mk ((by rw [hg]; exact (below_size (by repeat (first | (with_reducible first | exact HB.out | apply below_alloc | apply pw_below_drewN | apply below_drew1 | refine below_set ?_ GE177.out) | exact HB.out))) : w.heap.size ≤ gb178)); have n4_ := Aside0.mk ((by rw [hg]; exact (below_size (by repeat (first | (with_reducible first | exact HB.out | apply below_alloc | apply pw_below_drewN | apply below_drew1 | refine below_set ?_ GE177.out) | exact HB.out))) : w.heap.size ≤ gb178)); have n5_ := Aside0.mk ((by rw [hg]; exact Nat.ne_of_lt (blk_lt (g := gb177) (o := .cells #[.string a0_0, .int .i64 a0_1, .int .i64 a0_2, .string a0_3, .int .i64 a0_4, .int .i64 a0_5, .int .i64 a0_6, .slice A0_7 l0_7.length c0_7, .int .i64 a0_8, .int .i64 a0_9, .int .i64 a0_10, .int .i64 a0_11] 26 (0, 0)) (by (with_reducible repeat (first | refine blk_drewN ?_ _ | refine blk_drew ?_ | refine blk_alloc ?_ _)); exact BK177.out)) : gb177 ≠ gb178)); have n6_ := Aside0.mk ((by rw [hg]; exact Nat.ne_of_gt (blk_lt (g := gb177) (o := .cells #[.string a0_0, .int .i64 a0_1, .int .i64 a0_2, .string a0_3, .int .i64 a0_4, .int .i64 a0_5, .int .i64 a0_6, .slice A0_7 l0_7.length c0_7, .int .i64 a0_8, .int .i64 a0_9, .int .i64 a0_10, .int .i64 a0_11] 26 (0, 0)) (by (with_reducible repeat (first | refine blk_drewN ?_ _ | refine blk_drew ?_ | refine blk_alloc ?_ _)); exact BK177.out)) : gb178 ≠ gb177)); clear BK177; clear HB; have BK177 := n0_; have HB := n1_; have BK178 := n2_; have GW178 := n3_; have GE178 := n4_; have NB177_178 := n5_; have NB178_177 := n6_; clear n0_ n1_ n2_ n3_ n4_ n5_ n6_; clear hb hbox hg) | ((with_reducible refine gate_dst (N := 6) rfl ?_); refine box_event ?hg (N := 6) ?hd (cs := #[.int .i64 a2_0, .int .i64 a2_1, .int .i64 a2_2]) (t := 30) ?hr ?_; (case hd => rfl); (case hg => rfl); (case hr => first | (go_simp; done) | (go_simp; rfl)); intro gb179 hg w8 hbox hb; have n0_ := Aside0.mk (blk_below (g := gb177) (o := .cells #[.string a0_0, .int .i64 a0_1, .int .i64 a0_2, .string a0_3, .int .i64 a0_4, .int .i64 a0_5, .int .i64 a0_6, .slice A0_7 l0_7.length c0_7, .int .i64 a0_8, .int .i64 a0_9, .int .i64 a0_10, .int .i64 a0_11] 26 (0, 0)) (by (with_reducible repeat (first | refine blk_drewN ?_ _ | refine blk_drew ?_ | refine blk_alloc ?_ _)); exact BK177.out) hb); have n1_ := Aside0.mk (blk_below (g := gb178) (o := .cells #[.int .i64 a1_0, .int .i64 a1_1, .int .i64 a1_2] 28 (0, 0)) (by (with_reducible repeat (first | refine blk_drewN ?_ _ | refine blk_drew ?_ | refine blk_alloc ?_ _)); exact BK178.out) hb); have n2_ := Aside0.mk (below_step (by repeat (first | (with_reducible first | exact HB.out | apply below_alloc | apply pw_below_drewN | apply below_drew1 | refine below_set ?_ GE177.out | refine below_set ?_ GE178.out) | exact HB.out)) hb); have n3_ := Aside0.mk (hbox); have n4_ := Aside0.mk ((by rw [hg]; exact (below_size (by repeat (first | (with_reducible first | exact HB.out | apply below_alloc | apply pw_below_drewN | apply below_drew1 | refine below_set ?_ GE177.out | refine below_set ?_ GE178.out) | exact HB.out))) : w.heap.size ≤ gb179)); have n5_ := Aside0.mk ((by rw [hg]; exact (below_size (by repeat (first | (with_reducible first | exact HB.out | apply below_alloc | apply pw_below_drewN | apply below_drew1 | refine below_set ?_ GE177.out | refine below_set ?_ GE178.out) | exact HB.out))) : w.heap.size ≤ gb179)); have n6_ := Aside0.mk ((by rw [hg]; exact Nat.ne_of_lt (blk_lt (g := gb177) (o := .cells #[.string a0_0, .int .i64 a0_1, .int .i64 a0_2, .string a0_3, .int .i64 a0_4, .int .i64 a0_5, .int .i64 a0_6, .slice A0_7 l0_7.length c0_7, .int .i64 a0_8, .int .i64 a0_9, .int .i64 a0_10, .int .i64 a0_11] 26 (0, 0)) (by (with_reducible repeat (first | refine blk_drewN ?_ _ | refine blk_drew ?_ | refine blk_alloc ?_ _)); exact BK177.out)) : gb177 ≠ gb179)); have n7_ := Aside0.mk ((by rw [hg]; exact Nat.ne_of_gt (blk_lt (g := gb177) (o := .cells #[.string a0_0, .int .i64 a0_1, .int .i64 a0_2, .string a0_3, .int .i64 a0_4, .int .i64 a0_5, .int .i64 a0_6, .slice A0_7 l0_7.length c0_7, .int .i64 a0_8, .int .i64 a0_9, .int .i64 a0_10, .int .i64 a0_11] 26 (0, 0)) (by (with_reducible repeat (first | refine blk_drewN ?_ _ | refine blk_drew ?_ | refine blk_alloc ?_ _)); exact BK177.out)) : gb179 ≠ gb177)); have n8_ := Aside0.mk ((by rw [hg]; exact Nat.ne_of_lt (blk_lt (g := gb178) (o := .cells #[.int .i64 a1_0, .int .i64 a1_1, .int .i64 a1_2] 28 (0, 0)) (by (with_reducible repeat (first | refine blk_drewN ?_ _ | refine blk_drew ?_ | refine blk_alloc ?_ _)); exact BK178.out)) : gb178 ≠ gb179)); have n9_ := Aside0.mk ((by rw [hg]; exact Nat.ne_of_gt (blk_lt (g := gb178) (o := .cells #[.int .i64 a1_0, .int .i64 a1_1, .int .i64 a1_2] 28 (0, 0)) (by (with_reducible repeat (first | refine blk_drewN ?_ _ | refine blk_drew ?_ | refine blk_alloc ?_ _)); exact BK178.out)) : gb179 ≠ gb178)); clear BK177; clear BK178; clear HB; have BK177 := n0_; have BK178 := n1_; have HB := n2_; have BK179 := n3_; have GW179 := n4_; have GE179 := n5_; have NB177_179 := n6_; have NB179_177 := n7_; have NB178_179 := n8_; have NB179_178 := n9_; clear n0_ n1_ n2_ n3_ n4_ n5_ n6_ n7_ n8_ n9_; clear hb hbox hg) | ((with_reducible refine gate_dst (N := 8) rfl ?_); refine box_event ?hg (N := 8) ?hd (cs := #[.int .i64 0, .int .i64 0, .int .i64 0]) (t := 28) ?hr ?_; (case hd => rfl); (case hg => rfl); (case hr => first | (go_simp; done) | (go_simp; rfl)); intro gb180 hg w9 hbox hb; have n0_ := Aside0.mk (blk_below (g := gb177) (o := .cells #[.string a0_0, .int .i64 a0_1, .int .i64 a0_2, .string a0_3, .int .i64 a0_4, .int .i64 a0_5, .int .i64 a0_6, .slice A0_7 l0_7.length c0_7, .int .i64 a0_8, .int .i64 a0_9, .int .i64 a0_10, .int .i64 a0_11] 26 (0, 0)) (by (with_reducible repeat (first | refine blk_drewN ?_ _ | refine blk_drew ?_ | refine blk_alloc ?_ _)); exact BK177.out) hb); have n1_ := Aside0.mk (blk_below (g := gb178) (o := .cells #[.int .i64 a1_0, .int .i64 a1_1, .int .i64 a1_2] 28 (0, 0)) (by (with_reducible repeat (first | refine blk_drewN ?_ _ | refine blk_drew ?_ | refine blk_alloc ?_ _)); exact BK178.out) hb); have n2_ := Aside0.mk (blk_below (g := gb179) (o := .cells #[.int .i64 a2_0, .int .i64 a2_1, .int .i64 a2_2] 30 (0, 0)) (by (with_reducible repeat (first | refine blk_drewN ?_ _ | refine blk_drew ?_ | refine blk_alloc ?_ _)); exact BK179.out) hb); have n3_ := Aside0.mk (below_step (by repeat (first | (with_reducible first | exact HB.out | apply below_alloc | apply pw_below_drewN | apply below_drew1 | refine below_set ?_ GE177.out | refine below_set ?_ GE178.out | refine below_set ?_ GE179.out) | exact HB.out)) hb); have n4_ := Aside0.mk (hbox); have n5_ := Aside0.mk ((by rw [hg]; exact (below_size (by repeat (first | (with_reducible first | exact HB.out | apply below_alloc | apply pw_below_drewN | apply below_drew1 | refine below_set ?_ GE177.out | refine below_set ?_ GE178.out | refine below_set ?_ GE179.out) | exact HB.out))) : w.heap.size ≤ gb180)); have n6_ := Aside0.mk ((by rw [hg]; exact (below_size (by repeat (first | (with_reducible first | exact HB.out | apply below_alloc | apply pw_below_drewN | apply below_drew1 | refine below_set ?_ GE177.out | refine below_set ?_ GE178.out | refine below_set ?_ GE179.out) | exact HB.out))) : w.heap.size ≤ gb180)); have n7_ := Aside0.mk ((by rw [hg]; exact Nat.ne_of_lt (blk_lt (g := gb177) (o := .cells #[.string a0_0, .int .i64 a0_1, .int .i64 a0_2, .string a0_3, .int .i64 a0_4, .int .i64 a0_5, .int .i64 a0_6, .slice A0_7 l0_7.length c0_7, .int .i64 a0_8, .int .i64 a0_9, .int .i64 a0_10, .int .i64 a0_11] 26 (0, 0)) (by (with_reducible repeat (first | refine blk_drewN ?_ _ | refine blk_drew ?_ | refine blk_alloc ?_ _)); exact BK177.out)) : gb177 ≠ gb180)); have n8_ := Aside0.mk ((by rw [hg]; exact Nat.ne_of_gt (blk_lt (g := gb177) (o := .cells #[.string a0_0, .int .i64 a0_1, .int .i64 a0_2, .string a0_3, .int .i64 a0_4, .int .i64 a0_5, .int .i64 a0_6, .slice A0_7 l0_7.length c0_7, .int .i64 a0_8, .int .i64 a0_9, .int .i64 a0_10, .int .i64 a0_11] 26 (0, 0)) (by (with_reducible repeat (first | refine blk_drewN ?_ _ | refine blk_drew ?_ | refine blk_alloc ?_ _)); exact BK177.out)) : gb180 ≠ gb177)); have n9_ := Aside0.mk ((by rw [hg]; exact Nat.ne_of_lt (blk_lt (g := gb178) (o := .cells #[.int .i64 a1_0, .int .i64 a1_1, .int .i64 a1_2] 28 (0, 0)) (by (with_reducible repeat (first | refine blk_drewN ?_ _ | refine blk_drew ?_ | refine blk_alloc ?_ _)); exact BK178.out)) : gb178 ≠ gb180)); have n10_ := Aside0.mk ((by rw [hg]; exact Nat.ne_of_gt (blk_lt (g := gb178) (o := .cells #[.int .i64 a1_0, .int .i64 a1_1, .int .i64 a1_2] 28 (0, 0)) (by (with_reducible repeat (first | refine blk_drewN ?_ _ | refine blk_drew ?_ | refine blk_alloc ?_ _)); exact BK178.out)) : gb180 ≠ gb178)); have n11_ := Aside0.mk ((by rw [hg]; exact Nat.ne_of_lt (blk_lt (g := gb179) (o := .cells #[.int .i64 a2_0, .int .i64 a2_1, .int .i64 a2_2] 30 (0, 0)) (by (with_reducible repeat (first | refine blk_drewN ?_ _ | refine blk_drew ?_ | refine blk_alloc ?_ _)); exact BK179.out)) : gb179 ≠ gb180)); have n12_ := Aside0.mk ((by rw [hg]; exact Nat.ne_of_gt (blk_lt (g := gb179) (o := .cells #[.int .i64 a2_0, .int .i64 a2_1, .int .i64 a2_2] 30 (0, 0)) (by (with_reducible repeat (first | refine blk_drewN ?_ _ | refine blk_drew ?_ | refine blk_alloc ?_ _)); exact BK179.out)) : gb180 ≠ gb179)); clear BK177; clear BK178; clear BK179; clear HB; have BK177 := n0_; have BK178 := n1_; have BK179 := n2_; have HB := n3_; have BK180 := n4_; have GW180 := n5_; have GE180 := n6_; have NB177_180 := n7_; have NB180_177 := n8_; have NB178_180 := n9_; have NB180_178 := n10_; have NB179_180 := n11_; have NB180_179 := n12_; clear n0_ n1_ n2_ n3_ n4_ n5_ n6_ n7_ n8_ n9_ n10_ n11_ n12_; clear hb hbox hg))
  (try simp only [Act.put, List.setIfInBounds_toArray, List.set_cons_zero, List.set_cons_succ])
  go_cut [21] (fun v21 wc => ∃ (kq : Nat) (x21_4 : Bool), v21 = .bool x21_4 ∧ Aside0 (plenumref14_Next.j0 kq a3 x21_4 a0_0 a0_1 a0_2 a0_3 a0_4 a0_5 a0_6 l0_7 a0_8 a0_9 a0_10 a0_11 a1_0 a1_1 a1_2 a2_0 a2_1 a2_2 = some (r1, r2, r3, r4)) ∧ Aside0 (kq ≤ k) ∧ Aside0 (wc.heap[gb177]? = some (.cells #[.string a0_0, .int .i64 a0_1, .int .i64 a0_2, .string a0_3, .int .i64 a0_4, .int .i64 a0_5, .int .i64 a0_6, (.slice A0_7 l0_7.length c0_7), .int .i64 a0_8, .int .i64 a0_9, .int .i64 a0_10, .int .i64 a0_11] 26 (0, 0))) ∧ Aside0 (wc.heap[gb178]? = some (.cells #[.int .i64 a1_0, .int .i64 a1_1, .int .i64 a1_2] 28 (0, 0))) ∧ Aside0 (wc.heap[gb179]? = some (.cells #[.int .i64 a2_0, .int .i64 a2_1, .int .i64 a2_2] 30 (0, 0))) ∧ Aside0 (wc.heap[gb180]? = some (.cells #[.int .i64 0, .int .i64 0, .int .i64 0] 28 (0, 0))) ∧ Aside0 (Below w.heap.size w wc))
  case first =>
    have H := HC5.out
    clear HC5
    replace H := Option.bind_eq_some_iff.mp H
    obtain ⟨t181, A100, H⟩ := H
    replace H : (if t181 = true then ((plenumref14_Is.f a0_0 a0_1 a0_2 a0_3 a0_4 a0_5 a0_6 l0_7 a0_8 a0_9 a0_10 a0_11 a2_1 a2_2).bind fun t182 => (plenumref14_Next.j0 k a3 (!t182) a0_0 a0_1 a0_2 a0_3 a0_4 a0_5 a0_6 l0_7 a0_8 a0_9 a0_10 a0_11 a1_0 a1_1 a1_2 a2_0 a2_1 a2_2)) else (plenumref14_Next.j0 k a3 true a0_0 a0_1 a0_2 a0_3 a0_4 a0_5 a0_6 l0_7 a0_8 a0_9 a0_10 a0_11 a1_0 a1_1 a1_2 a2_0 a2_1 a2_2)) = some (r1, r2, r3, r4) := H
    have A10 := Aside0.mk A100
    clear A100
    by_cases c11 : t181 = true
    · subst c11
      have H1 : ((plenumref14_Is.f a0_0 a0_1 a0_2 a0_3 a0_4 a0_5 a0_6 l0_7 a0_8 a0_9 a0_10 a0_11 a2_1 a2_2).bind fun t182 => (plenumref14_Next.j0 k a3 (!t182) a0_0 a0_1 a0_2 a0_3 a0_4 a0_5 a0_6 l0_7 a0_8 a0_9 a0_10 a0_11 a1_0 a1_1 a1_2 a2_0 a2_1 a2_2)) = some (r1, r2, r3, r4) := by rw [if_pos rfl] at H; exact H
      clear H
      have H := H1
      clear H1
      replace H := Option.bind_eq_some_iff.mp H
      obtain ⟨t182, A120, H⟩ := H
      replace H : (plenumref14_Next.j0 k a3 (!t182) a0_0 a0_1 a0_2 a0_3 a0_4 a0_5 a0_6 l0_7 a0_8 a0_9 a0_10 a0_11 a1_0 a1_1 a1_2 a2_0 a2_1 a2_2) = some (r1, r2, r3, r4) := H
      have A12 := Aside0.mk A120
      clear A120
      have H' := Aside0.mk H
      clear H
      have hnb13 := NB177_178.out
      have hnc13 := NB178_177.out
      have hnb14 := NB177_179.out
      have hnc14 := NB179_177.out
      have hnb15 := NB177_180.out
      have hnc15 := NB180_177.out
      have hcz16_0 : w9.cell? ⟨gb177, 0, none⟩ = some (.string a0_0) := (blk_cell BK177.out 0).trans rfl
      have hcz16_1 : w9.cell? ⟨gb177, 1, none⟩ = some (.int .i64 a0_1) := (blk_cell BK177.out 1).trans rfl
      have hcz16_2 : w9.cell? ⟨gb177, 2, none⟩ = some (.int .i64 a0_2) := (blk_cell BK177.out 2).trans rfl
      have hcz16_3 : w9.cell? ⟨gb177, 3, none⟩ = some (.string a0_3) := (blk_cell BK177.out 3).trans rfl
      have hcz16_4 : w9.cell? ⟨gb177, 4, none⟩ = some (.int .i64 a0_4) := (blk_cell BK177.out 4).trans rfl
      have hcz16_5 : w9.cell? ⟨gb177, 5, none⟩ = some (.int .i64 a0_5) := (blk_cell BK177.out 5).trans rfl
      have hcz16_6 : w9.cell? ⟨gb177, 6, none⟩ = some (.int .i64 a0_6) := (blk_cell BK177.out 6).trans rfl
      have hcz16_7 : w9.cell? ⟨gb177, 7, none⟩ = some (.slice A0_7 l0_7.length c0_7) := (blk_cell BK177.out 7).trans rfl
      have hcz16_8 : w9.cell? ⟨gb177, 8, none⟩ = some (.int .i64 a0_8) := (blk_cell BK177.out 8).trans rfl
      have hcz16_9 : w9.cell? ⟨gb177, 9, none⟩ = some (.int .i64 a0_9) := (blk_cell BK177.out 9).trans rfl
      have hcz16_10 : w9.cell? ⟨gb177, 10, none⟩ = some (.int .i64 a0_10) := (blk_cell BK177.out 10).trans rfl
      have hcz16_11 : w9.cell? ⟨gb177, 11, none⟩ = some (.int .i64 a0_11) := (blk_cell BK177.out 11).trans rfl
      have hfz16_0 := blk_frozen BK177.out 0
      have hfz16_1 := blk_frozen BK177.out 1
      have hfz16_2 := blk_frozen BK177.out 2
      have hfz16_3 := blk_frozen BK177.out 3
      have hfz16_4 := blk_frozen BK177.out 4
      have hfz16_5 := blk_frozen BK177.out 5
      have hfz16_6 := blk_frozen BK177.out 6
      have hfz16_7 := blk_frozen BK177.out 7
      have hfz16_8 := blk_frozen BK177.out 8
      have hfz16_9 := blk_frozen BK177.out 9
      have hfz16_10 := blk_frozen BK177.out 10
      have hfz16_11 := blk_frozen BK177.out 11
      have hnb17 := NB178_179.out
      have hnc17 := NB179_178.out
      have hnb18 := NB178_180.out
      have hnc18 := NB180_178.out
      have hcz19_0 : w9.cell? ⟨gb178, 0, none⟩ = some (.int .i64 a1_0) := (blk_cell BK178.out 0).trans rfl
      have hcz19_1 : w9.cell? ⟨gb178, 1, none⟩ = some (.int .i64 a1_1) := (blk_cell BK178.out 1).trans rfl
      have hcz19_2 : w9.cell? ⟨gb178, 2, none⟩ = some (.int .i64 a1_2) := (blk_cell BK178.out 2).trans rfl
      have hfz19_0 := blk_frozen BK178.out 0
      have hfz19_1 := blk_frozen BK178.out 1
      have hfz19_2 := blk_frozen BK178.out 2
      go_wp2_with (first | ((with_reducible refine gate_callee (f := 22) rfl ?_); refine goesL_ (some 13) rfl rfl Try.func22 (by kernel_rfl) rfl #[.agg #[.string a0_0, .int .i64 a0_1, .int .i64 a0_2, .string a0_3, .int .i64 a0_4, .int .i64 a0_5, .int .i64 a0_6, .slice A0_7 l0_7.length c0_7, .int .i64 a0_8, .int .i64 a0_9, .int .i64 a0_10, .int .i64 a0_11], .agg #[.int .i64 a1_0, .int .i64 a1_1]] rfl (by (try simp only [List.map_toArray, List.map_cons, List.map_nil]); first | done | rfl | (simp only [List.length_drop, List.length_take]; rfl)) ?_; (with_reducible refine (plenumref14_Is.calls a0_0 a0_1 a0_2 a0_3 a0_4 a0_5 a0_6 _ _ l0_7 a0_8 a0_9 a0_10 a0_11 a1_0 a1_1 true _ ?side1 ?side2 A10.out).mono ?_); (case side1 => repeat (first | exact (Kd.C_below HR0_7.out HB.out) | (with_reducible refine Kd.C_alloc ?_ _) | (with_reducible refine Kd.C_drewN ?_ _) | (with_reducible refine Kd.C_drew ?_))); (case side2 => exact HC0_7.out); rintro e w20 ⟨rfl, hb⟩; refine ⟨_, rfl, ?_⟩; have n0_ := Aside0.mk (blk_below (g := gb177) (o := .cells #[.string a0_0, .int .i64 a0_1, .int .i64 a0_2, .string a0_3, .int .i64 a0_4, .int .i64 a0_5, .int .i64 a0_6, .slice A0_7 l0_7.length c0_7, .int .i64 a0_8, .int .i64 a0_9, .int .i64 a0_10, .int .i64 a0_11] 26 (0, 0)) (by (with_reducible repeat (first | refine blk_drewN ?_ _ | refine blk_drew ?_ | refine blk_alloc ?_ _)); exact BK177.out) hb); have n1_ := Aside0.mk (blk_below (g := gb178) (o := .cells #[.int .i64 a1_0, .int .i64 a1_1, .int .i64 a1_2] 28 (0, 0)) (by (with_reducible repeat (first | refine blk_drewN ?_ _ | refine blk_drew ?_ | refine blk_alloc ?_ _)); exact BK178.out) hb); have n2_ := Aside0.mk (blk_below (g := gb179) (o := .cells #[.int .i64 a2_0, .int .i64 a2_1, .int .i64 a2_2] 30 (0, 0)) (by (with_reducible repeat (first | refine blk_drewN ?_ _ | refine blk_drew ?_ | refine blk_alloc ?_ _)); exact BK179.out) hb); have n3_ := Aside0.mk (blk_below (g := gb180) (o := .cells #[.int .i64 0, .int .i64 0, .int .i64 0] 28 (0, 0)) (by (with_reducible repeat (first | refine blk_drewN ?_ _ | refine blk_drew ?_ | refine blk_alloc ?_ _)); exact BK180.out) hb); have n4_ := Aside0.mk (below_step (by repeat (first | (with_reducible first | exact HB.out | apply below_alloc | apply pw_below_drewN | apply below_drew1 | refine below_set ?_ GE177.out | refine below_set ?_ GE178.out | refine below_set ?_ GE179.out | refine below_set ?_ GE180.out) | exact HB.out)) hb); clear BK177; clear BK178; clear BK179; clear BK180; clear HB; have BK177 := n0_; have BK178 := n1_; have BK179 := n2_; have BK180 := n3_; have HB := n4_; clear n0_ n1_ n2_ n3_ n4_; (try clear hb); (try clear hb2); (try clear hk); (try clear hi); have hcz21_0 : w20.cell? ⟨gb177, 0, none⟩ = some (.string a0_0) := (blk_cell BK177.out 0).trans rfl; have hcz21_1 : w20.cell? ⟨gb177, 1, none⟩ = some (.int .i64 a0_1) := (blk_cell BK177.out 1).trans rfl; have hcz21_2 : w20.cell? ⟨gb177, 2, none⟩ = some (.int .i64 a0_2) := (blk_cell BK177.out 2).trans rfl; have hcz21_3 : w20.cell? ⟨gb177, 3, none⟩ = some (.string a0_3) := (blk_cell BK177.out 3).trans rfl; have hcz21_4 : w20.cell? ⟨gb177, 4, none⟩ = some (.int .i64 a0_4) := (blk_cell BK177.out 4).trans rfl; have hcz21_5 : w20.cell? ⟨gb177, 5, none⟩ = some (.int .i64 a0_5) := (blk_cell BK177.out 5).trans rfl; have hcz21_6 : w20.cell? ⟨gb177, 6, none⟩ = some (.int .i64 a0_6) := (blk_cell BK177.out 6).trans rfl; have hcz21_7 : w20.cell? ⟨gb177, 7, none⟩ = some (.slice A0_7 l0_7.length c0_7) := (blk_cell BK177.out 7).trans rfl; have hcz21_8 : w20.cell? ⟨gb177, 8, none⟩ = some (.int .i64 a0_8) := (blk_cell BK177.out 8).trans rfl; have hcz21_9 : w20.cell? ⟨gb177, 9, none⟩ = some (.int .i64 a0_9) := (blk_cell BK177.out 9).trans rfl; have hcz21_10 : w20.cell? ⟨gb177, 10, none⟩ = some (.int .i64 a0_10) := (blk_cell BK177.out 10).trans rfl; have hcz21_11 : w20.cell? ⟨gb177, 11, none⟩ = some (.int .i64 a0_11) := (blk_cell BK177.out 11).trans rfl; have hfz21_0 := blk_frozen BK177.out 0; have hfz21_1 := blk_frozen BK177.out 1; have hfz21_2 := blk_frozen BK177.out 2; have hfz21_3 := blk_frozen BK177.out 3; have hfz21_4 := blk_frozen BK177.out 4; have hfz21_5 := blk_frozen BK177.out 5; have hfz21_6 := blk_frozen BK177.out 6; have hfz21_7 := blk_frozen BK177.out 7; have hfz21_8 := blk_frozen BK177.out 8; have hfz21_9 := blk_frozen BK177.out 9; have hfz21_10 := blk_frozen BK177.out 10; have hfz21_11 := blk_frozen BK177.out 11; have hnb22 := NB179_180.out; have hnc22 := NB180_179.out; have hcz23_0 : w20.cell? ⟨gb179, 0, none⟩ = some (.int .i64 a2_0) := (blk_cell BK179.out 0).trans rfl; have hcz23_1 : w20.cell? ⟨gb179, 1, none⟩ = some (.int .i64 a2_1) := (blk_cell BK179.out 1).trans rfl; have hcz23_2 : w20.cell? ⟨gb179, 2, none⟩ = some (.int .i64 a2_2) := (blk_cell BK179.out 2).trans rfl; have hfz23_0 := blk_frozen BK179.out 0; have hfz23_1 := blk_frozen BK179.out 1; have hfz23_2 := blk_frozen BK179.out 2) | (go_at_call 22; (with_reducible refine (plenumref14_Is.calls a0_0 a0_1 a0_2 a0_3 a0_4 a0_5 a0_6 _ _ l0_7 a0_8 a0_9 a0_10 a0_11 a2_1 a2_2 t182 _ ?side1 ?side2 A12.out).mono ?_); (case side1 => repeat (first | exact (Kd.C_below HR0_7.out HB.out) | (with_reducible refine Kd.C_alloc ?_ _) | (with_reducible refine Kd.C_drewN ?_ _) | (with_reducible refine Kd.C_drew ?_))); (case side2 => exact HC0_7.out); rintro e w24 ⟨rfl, hb⟩; have n0_ := Aside0.mk (blk_below (g := gb177) (o := .cells #[.string a0_0, .int .i64 a0_1, .int .i64 a0_2, .string a0_3, .int .i64 a0_4, .int .i64 a0_5, .int .i64 a0_6, .slice A0_7 l0_7.length c0_7, .int .i64 a0_8, .int .i64 a0_9, .int .i64 a0_10, .int .i64 a0_11] 26 (0, 0)) (by (with_reducible repeat (first | refine blk_drewN ?_ _ | refine blk_drew ?_ | refine blk_alloc ?_ _)); exact BK177.out) hb); have n1_ := Aside0.mk (blk_below (g := gb178) (o := .cells #[.int .i64 a1_0, .int .i64 a1_1, .int .i64 a1_2] 28 (0, 0)) (by (with_reducible repeat (first | refine blk_drewN ?_ _ | refine blk_drew ?_ | refine blk_alloc ?_ _)); exact BK178.out) hb); have n2_ := Aside0.mk (blk_below (g := gb179) (o := .cells #[.int .i64 a2_0, .int .i64 a2_1, .int .i64 a2_2] 30 (0, 0)) (by (with_reducible repeat (first | refine blk_drewN ?_ _ | refine blk_drew ?_ | refine blk_alloc ?_ _)); exact BK179.out) hb); have n3_ := Aside0.mk (blk_below (g := gb180) (o := .cells #[.int .i64 0, .int .i64 0, .int .i64 0] 28 (0, 0)) (by (with_reducible repeat (first | refine blk_drewN ?_ _ | refine blk_drew ?_ | refine blk_alloc ?_ _)); exact BK180.out) hb); have n4_ := Aside0.mk (below_step (by repeat (first | (with_reducible first | exact HB.out | apply below_alloc | apply pw_below_drewN | apply below_drew1 | refine below_set ?_ GE177.out | refine below_set ?_ GE178.out | refine below_set ?_ GE179.out | refine below_set ?_ GE180.out) | exact HB.out)) hb); clear BK177; clear BK178; clear BK179; clear BK180; clear HB; have BK177 := n0_; have BK178 := n1_; have BK179 := n2_; have BK180 := n3_; have HB := n4_; clear n0_ n1_ n2_ n3_ n4_; (try clear hb); (try clear hb2); (try clear hk); (try clear hi)))
      go_meet
      case rel => exact ⟨_, (!t182), (by first | rfl | (simp; done) | (simp [*]; done)), H', ⟨by first | omega | exact Nat.le_refl _⟩, ⟨by (with_reducible repeat (first | refine blk_drewN ?_ _ | refine blk_drew ?_ | refine blk_alloc ?_ _)); exact BK177.out⟩, ⟨by (with_reducible repeat (first | refine blk_drewN ?_ _ | refine blk_drew ?_ | refine blk_alloc ?_ _)); exact BK178.out⟩, ⟨by (with_reducible repeat (first | refine blk_drewN ?_ _ | refine blk_drew ?_ | refine blk_alloc ?_ _)); exact BK179.out⟩, ⟨by (with_reducible repeat (first | refine blk_drewN ?_ _ | refine blk_drew ?_ | refine blk_alloc ?_ _)); exact BK180.out⟩, ⟨by repeat (first | (with_reducible first | exact HB.out | apply below_alloc | apply pw_below_drewN | apply below_drew1 | refine below_set ?_ GE177.out | refine below_set ?_ GE178.out | refine below_set ?_ GE179.out | refine below_set ?_ GE180.out) | exact HB.out)⟩⟩
    · replace c11 := Bool.eq_false_iff.mpr c11
      subst c11
      have H1 : (plenumref14_Next.j0 k a3 true a0_0 a0_1 a0_2 a0_3 a0_4 a0_5 a0_6 l0_7 a0_8 a0_9 a0_10 a0_11 a1_0 a1_1 a1_2 a2_0 a2_1 a2_2) = some (r1, r2, r3, r4) := by rw [if_neg (show ¬ (false = true) by decide)] at H; exact H
      clear H
      have H := H1
      clear H1
      have H' := Aside0.mk H
      clear H
      have hnb25 := NB177_178.out
      have hnc25 := NB178_177.out
      have hnb26 := NB177_179.out
      have hnc26 := NB179_177.out
      have hnb27 := NB177_180.out
      have hnc27 := NB180_177.out
      have hcz28_0 : w9.cell? ⟨gb177, 0, none⟩ = some (.string a0_0) := (blk_cell BK177.out 0).trans rfl
      have hcz28_1 : w9.cell? ⟨gb177, 1, none⟩ = some (.int .i64 a0_1) := (blk_cell BK177.out 1).trans rfl
      have hcz28_2 : w9.cell? ⟨gb177, 2, none⟩ = some (.int .i64 a0_2) := (blk_cell BK177.out 2).trans rfl
      have hcz28_3 : w9.cell? ⟨gb177, 3, none⟩ = some (.string a0_3) := (blk_cell BK177.out 3).trans rfl
      have hcz28_4 : w9.cell? ⟨gb177, 4, none⟩ = some (.int .i64 a0_4) := (blk_cell BK177.out 4).trans rfl
      have hcz28_5 : w9.cell? ⟨gb177, 5, none⟩ = some (.int .i64 a0_5) := (blk_cell BK177.out 5).trans rfl
      have hcz28_6 : w9.cell? ⟨gb177, 6, none⟩ = some (.int .i64 a0_6) := (blk_cell BK177.out 6).trans rfl
      have hcz28_7 : w9.cell? ⟨gb177, 7, none⟩ = some (.slice A0_7 l0_7.length c0_7) := (blk_cell BK177.out 7).trans rfl
      have hcz28_8 : w9.cell? ⟨gb177, 8, none⟩ = some (.int .i64 a0_8) := (blk_cell BK177.out 8).trans rfl
      have hcz28_9 : w9.cell? ⟨gb177, 9, none⟩ = some (.int .i64 a0_9) := (blk_cell BK177.out 9).trans rfl
      have hcz28_10 : w9.cell? ⟨gb177, 10, none⟩ = some (.int .i64 a0_10) := (blk_cell BK177.out 10).trans rfl
      have hcz28_11 : w9.cell? ⟨gb177, 11, none⟩ = some (.int .i64 a0_11) := (blk_cell BK177.out 11).trans rfl
      have hfz28_0 := blk_frozen BK177.out 0
      have hfz28_1 := blk_frozen BK177.out 1
      have hfz28_2 := blk_frozen BK177.out 2
      have hfz28_3 := blk_frozen BK177.out 3
      have hfz28_4 := blk_frozen BK177.out 4
      have hfz28_5 := blk_frozen BK177.out 5
      have hfz28_6 := blk_frozen BK177.out 6
      have hfz28_7 := blk_frozen BK177.out 7
      have hfz28_8 := blk_frozen BK177.out 8
      have hfz28_9 := blk_frozen BK177.out 9
      have hfz28_10 := blk_frozen BK177.out 10
      have hfz28_11 := blk_frozen BK177.out 11
      have hnb29 := NB178_179.out
      have hnc29 := NB179_178.out
      have hnb30 := NB178_180.out
      have hnc30 := NB180_178.out
      have hcz31_0 : w9.cell? ⟨gb178, 0, none⟩ = some (.int .i64 a1_0) := (blk_cell BK178.out 0).trans rfl
      have hcz31_1 : w9.cell? ⟨gb178, 1, none⟩ = some (.int .i64 a1_1) := (blk_cell BK178.out 1).trans rfl
      have hcz31_2 : w9.cell? ⟨gb178, 2, none⟩ = some (.int .i64 a1_2) := (blk_cell BK178.out 2).trans rfl
      have hfz31_0 := blk_frozen BK178.out 0
      have hfz31_1 := blk_frozen BK178.out 1
      have hfz31_2 := blk_frozen BK178.out 2
      go_wp2_with (first | ((with_reducible refine gate_callee (f := 22) rfl ?_); refine goesL_ (some 13) rfl rfl Try.func22 (by kernel_rfl) rfl #[.agg #[.string a0_0, .int .i64 a0_1, .int .i64 a0_2, .string a0_3, .int .i64 a0_4, .int .i64 a0_5, .int .i64 a0_6, .slice A0_7 l0_7.length c0_7, .int .i64 a0_8, .int .i64 a0_9, .int .i64 a0_10, .int .i64 a0_11], .agg #[.int .i64 a1_0, .int .i64 a1_1]] rfl (by (try simp only [List.map_toArray, List.map_cons, List.map_nil]); first | done | rfl | (simp only [List.length_drop, List.length_take]; rfl)) ?_; (with_reducible refine (plenumref14_Is.calls a0_0 a0_1 a0_2 a0_3 a0_4 a0_5 a0_6 _ _ l0_7 a0_8 a0_9 a0_10 a0_11 a1_0 a1_1 false _ ?side1 ?side2 A10.out).mono ?_); (case side1 => repeat (first | exact (Kd.C_below HR0_7.out HB.out) | (with_reducible refine Kd.C_alloc ?_ _) | (with_reducible refine Kd.C_drewN ?_ _) | (with_reducible refine Kd.C_drew ?_))); (case side2 => exact HC0_7.out); rintro e w32 ⟨rfl, hb⟩; refine ⟨_, rfl, ?_⟩; have n0_ := Aside0.mk (blk_below (g := gb177) (o := .cells #[.string a0_0, .int .i64 a0_1, .int .i64 a0_2, .string a0_3, .int .i64 a0_4, .int .i64 a0_5, .int .i64 a0_6, .slice A0_7 l0_7.length c0_7, .int .i64 a0_8, .int .i64 a0_9, .int .i64 a0_10, .int .i64 a0_11] 26 (0, 0)) (by (with_reducible repeat (first | refine blk_drewN ?_ _ | refine blk_drew ?_ | refine blk_alloc ?_ _)); exact BK177.out) hb); have n1_ := Aside0.mk (blk_below (g := gb178) (o := .cells #[.int .i64 a1_0, .int .i64 a1_1, .int .i64 a1_2] 28 (0, 0)) (by (with_reducible repeat (first | refine blk_drewN ?_ _ | refine blk_drew ?_ | refine blk_alloc ?_ _)); exact BK178.out) hb); have n2_ := Aside0.mk (blk_below (g := gb179) (o := .cells #[.int .i64 a2_0, .int .i64 a2_1, .int .i64 a2_2] 30 (0, 0)) (by (with_reducible repeat (first | refine blk_drewN ?_ _ | refine blk_drew ?_ | refine blk_alloc ?_ _)); exact BK179.out) hb); have n3_ := Aside0.mk (blk_below (g := gb180) (o := .cells #[.int .i64 0, .int .i64 0, .int .i64 0] 28 (0, 0)) (by (with_reducible repeat (first | refine blk_drewN ?_ _ | refine blk_drew ?_ | refine blk_alloc ?_ _)); exact BK180.out) hb); have n4_ := Aside0.mk (below_step (by repeat (first | (with_reducible first | exact HB.out | apply below_alloc | apply pw_below_drewN | apply below_drew1 | refine below_set ?_ GE177.out | refine below_set ?_ GE178.out | refine below_set ?_ GE179.out | refine below_set ?_ GE180.out) | exact HB.out)) hb); clear BK177; clear BK178; clear BK179; clear BK180; clear HB; have BK177 := n0_; have BK178 := n1_; have BK179 := n2_; have BK180 := n3_; have HB := n4_; clear n0_ n1_ n2_ n3_ n4_; (try clear hb); (try clear hb2); (try clear hk); (try clear hi)))
      go_meet
      case rel => exact ⟨_, (true), (by first | rfl | (simp; done) | (simp [*]; done)), H', ⟨by first | omega | exact Nat.le_refl _⟩, ⟨by (with_reducible repeat (first | refine blk_drewN ?_ _ | refine blk_drew ?_ | refine blk_alloc ?_ _)); exact BK177.out⟩, ⟨by (with_reducible repeat (first | refine blk_drewN ?_ _ | refine blk_drew ?_ | refine blk_alloc ?_ _)); exact BK178.out⟩, ⟨by (with_reducible repeat (first | refine blk_drewN ?_ _ | refine blk_drew ?_ | refine blk_alloc ?_ _)); exact BK179.out⟩, ⟨by (with_reducible repeat (first | refine blk_drewN ?_ _ | refine blk_drew ?_ | refine blk_alloc ?_ _)); exact BK180.out⟩, ⟨by repeat (first | (with_reducible first | exact HB.out | apply below_alloc | apply pw_below_drewN | apply below_drew1 | refine below_set ?_ GE177.out | refine below_set ?_ GE178.out | refine below_set ?_ GE179.out | refine below_set ?_ GE180.out) | exact HB.out)⟩⟩
  case rest =>
    clear HC5
    try clear c1
    try clear c2
    try clear p2
    try clear c3
    try clear c11
    try clear c13
    try clear c14
    try clear c15
    try clear c17
    try clear c18
    try clear c22
    try clear c25
    try clear c26
    try clear c27
    try clear c29
    try clear c30
    try clear hcz16_0
    try clear hcz16_1
    try clear hcz16_10
    try clear hcz16_11
    try clear hcz16_2
    try clear hcz16_3
    try clear hcz16_4
    try clear hcz16_5
    try clear hcz16_6
    try clear hcz16_7
    try clear hcz16_8
    try clear hcz16_9
    try clear hcz19_0
    try clear hcz19_1
    try clear hcz19_2
    try clear hcz21_0
    try clear hcz21_1
    try clear hcz21_10
    try clear hcz21_11
    try clear hcz21_2
    try clear hcz21_3
    try clear hcz21_4
    try clear hcz21_5
    try clear hcz21_6
    try clear hcz21_7
    try clear hcz21_8
    try clear hcz21_9
    try clear hcz23_0
    try clear hcz23_1
    try clear hcz23_2
    try clear hcz28_0
    try clear hcz28_1
    try clear hcz28_10
    try clear hcz28_11
    try clear hcz28_2
    try clear hcz28_3
    try clear hcz28_4
    try clear hcz28_5
    try clear hcz28_6
    try clear hcz28_7
    try clear hcz28_8
    try clear hcz28_9
    try clear hcz31_0
    try clear hcz31_1
    try clear hcz31_2
    try clear hfz16_0
    try clear hfz16_1
    try clear hfz16_10
    try clear hfz16_11
    try clear hfz16_2
    try clear hfz16_3
    try clear hfz16_4
    try clear hfz16_5
    try clear hfz16_6
    try clear hfz16_7
    try clear hfz16_8
    try clear hfz16_9
    try clear hfz19_0
    try clear hfz19_1
    try clear hfz19_2
    try clear hfz21_0
    try clear hfz21_1
    try clear hfz21_10
    try clear hfz21_11
    try clear hfz21_2
    try clear hfz21_3
    try clear hfz21_4
    try clear hfz21_5
    try clear hfz21_6
    try clear hfz21_7
    try clear hfz21_8
    try clear hfz21_9
    try clear hfz23_0
    try clear hfz23_1
    try clear hfz23_2
    try clear hfz28_0
    try clear hfz28_1
    try clear hfz28_10
    try clear hfz28_11
    try clear hfz28_2
    try clear hfz28_3
    try clear hfz28_4
    try clear hfz28_5
    try clear hfz28_6
    try clear hfz28_7
    try clear hfz28_8
    try clear hfz28_9
    try clear hfz31_0
    try clear hfz31_1
    try clear hfz31_2
    obtain ⟨kq, x21_4, rfl, HA, HJ4, BK177, BK178, BK179, BK180, HB⟩ := hcut
    cases kq with
    | zero => exact absurd HA.out (by simp [plenumref14_Next.j0])
    | succ kj4 =>
      have H := HA.out
      clear HA
      simp only [plenumref14_Next.j0] at H
      by_cases c33 : x21_4 = true
      · subst c33
        have H1 : (some (0, 0, 0, 11)) = some (r1, r2, r3, r4) := by rw [if_pos rfl] at H; exact H
        clear H
        have H := H1
        clear H1
        simp only [Option.some.injEq, Prod.mk.injEq] at H
        obtain ⟨rfl, rfl, rfl, rfl⟩ := H
        have hnb34 := NB180_177.out
        have hnc34 := NB177_180.out
        have hnb35 := NB180_178.out
        have hnc35 := NB178_180.out
        have hnb36 := NB180_179.out
        have hnc36 := NB179_180.out
        have hcz37_0 : wc.cell? ⟨gb180, 0, none⟩ = some (.int .i64 0) := (blk_cell BK180.out 0).trans rfl
        have hcz37_1 : wc.cell? ⟨gb180, 1, none⟩ = some (.int .i64 0) := (blk_cell BK180.out 1).trans rfl
        have hcz37_2 : wc.cell? ⟨gb180, 2, none⟩ = some (.int .i64 0) := (blk_cell BK180.out 2).trans rfl
        have hfz37_0 := blk_frozen BK180.out 0
        have hfz37_1 := blk_frozen BK180.out 1
        have hfz37_2 := blk_frozen BK180.out 2
        go_wp2
        refine bodyPost_ret (results_ct rfl _ _ gb180 28 #[.int .i64 0, .int .i64 0, .int .i64 0] (0, 0) _ rfl (by (with_reducible repeat (first | refine blk_drewN ?_ _ | refine blk_drew ?_ | refine blk_alloc ?_ _)); refine blk_put (cs := #[.int .i64 0, .int .i64 0, .int .i64 0]) ?_ 2 _ rfl; (with_reducible repeat (first | refine blk_drewN ?_ _ | refine blk_drew ?_ | refine blk_alloc ?_ _)); refine blk_put (cs := #[.int .i64 0, .int .i64 0, .int .i64 0]) ?_ 1 _ rfl; (with_reducible repeat (first | refine blk_drewN ?_ _ | refine blk_drew ?_ | refine blk_alloc ?_ _)); refine blk_put (cs := #[.int .i64 0, .int .i64 0, .int .i64 0]) ?_ 0 _ rfl; (with_reducible repeat (first | refine blk_drewN ?_ _ | refine blk_drew ?_ | refine blk_alloc ?_ _)); exact BK180.out) Try.underlying28 rfl (by kernel_rfl)) rfl ?_
        exact ⟨by first | rfl | (simp [errW_none, errW_some] <;> rfl) | (simp [*, errW_none, errW_some] <;> rfl), by repeat (first | (with_reducible first | exact HB.out | apply below_alloc | apply pw_below_drewN | apply below_drew1 | refine below_set ?_ GE177.out | refine below_set ?_ GE178.out | refine below_set ?_ GE179.out | refine below_set ?_ GE180.out) | exact HB.out)⟩
      · replace c33 := Bool.eq_false_iff.mpr c33
        subst c33
        have H1 : (if a2_0 < 1 then (plenumref14_Next.j1 kj4 a3 true a0_0 a0_1 a0_2 a0_3 a0_4 a0_5 a0_6 l0_7 a0_8 a0_9 a0_10 a0_11 a1_0 a1_1 a1_2 a2_0 a2_1 a2_2) else (plenumref14_Next.j1 kj4 a3 (decide (a2_0 > 17)) a0_0 a0_1 a0_2 a0_3 a0_4 a0_5 a0_6 l0_7 a0_8 a0_9 a0_10 a0_11 a1_0 a1_1 a1_2 a2_0 a2_1 a2_2)) = some (r1, r2, r3, r4) := by rw [if_neg (show ¬ (false = true) by decide)] at H; exact H
        clear H
        have H := H1
        clear H1
        have HC38 := Aside0.mk H
        clear H
        go_upto_region 3 with (fail)
        go_cut [30] (fun v30 wc => ∃ (kq : Nat) (x30_37 : Bool), v30 = .bool x30_37 ∧ Aside0 (plenumref14_Next.j1 kq a3 x30_37 a0_0 a0_1 a0_2 a0_3 a0_4 a0_5 a0_6 l0_7 a0_8 a0_9 a0_10 a0_11 a1_0 a1_1 a1_2 a2_0 a2_1 a2_2 = some (r1, r2, r3, r4)) ∧ Aside0 (kq ≤ kj4) ∧ Aside0 (wc.heap[gb177]? = some (.cells #[.string a0_0, .int .i64 a0_1, .int .i64 a0_2, .string a0_3, .int .i64 a0_4, .int .i64 a0_5, .int .i64 a0_6, (.slice A0_7 l0_7.length c0_7), .int .i64 a0_8, .int .i64 a0_9, .int .i64 a0_10, .int .i64 a0_11] 26 (0, 0))) ∧ Aside0 (wc.heap[gb178]? = some (.cells #[.int .i64 a1_0, .int .i64 a1_1, .int .i64 a1_2] 28 (0, 0))) ∧ Aside0 (wc.heap[gb179]? = some (.cells #[.int .i64 a2_0, .int .i64 a2_1, .int .i64 a2_2] 30 (0, 0))) ∧ Aside0 (wc.heap[gb180]? = some (.cells #[.int .i64 0, .int .i64 0, .int .i64 0] 28 (0, 0))) ∧ Aside0 (Below w.heap.size w wc))
        case first =>
          have H := HC38.out
          clear HC38
          by_cases c39 : a2_0 < 1
          · rw [if_pos c39] at H
            have c39b0 : decide (a2_0 < 1) = true := decide_eq_true c39
            clear c39
            (first | rw [c39b0] | (simp only [i64_w, i32_w]; rw [c39b0]) | skip)
            have H' := Aside0.mk H
            clear H
            have hnb40 := NB179_177.out
            have hnc40 := NB177_179.out
            have hnb41 := NB179_178.out
            have hnc41 := NB178_179.out
            have hnb42 := NB179_180.out
            have hnc42 := NB180_179.out
            have hcz43_0 : wc.cell? ⟨gb179, 0, none⟩ = some (.int .i64 a2_0) := (blk_cell BK179.out 0).trans rfl
            have hcz43_1 : wc.cell? ⟨gb179, 1, none⟩ = some (.int .i64 a2_1) := (blk_cell BK179.out 1).trans rfl
            have hcz43_2 : wc.cell? ⟨gb179, 2, none⟩ = some (.int .i64 a2_2) := (blk_cell BK179.out 2).trans rfl
            have hfz43_0 := blk_frozen BK179.out 0
            have hfz43_1 := blk_frozen BK179.out 1
            have hfz43_2 := blk_frozen BK179.out 2
            go_wp2
            go_meet
            case rel => exact ⟨_, (true), (by first | rfl | (simp; done) | (simp [*]; done)), H', ⟨by have := HJ4.out; first | omega | exact Nat.le_refl _⟩, ⟨by (with_reducible repeat (first | refine blk_drewN ?_ _ | refine blk_drew ?_ | refine blk_alloc ?_ _)); exact BK177.out⟩, ⟨by (with_reducible repeat (first | refine blk_drewN ?_ _ | refine blk_drew ?_ | refine blk_alloc ?_ _)); exact BK178.out⟩, ⟨by (with_reducible repeat (first | refine blk_drewN ?_ _ | refine blk_drew ?_ | refine blk_alloc ?_ _)); exact BK179.out⟩, ⟨by (with_reducible repeat (first | refine blk_drewN ?_ _ | refine blk_drew ?_ | refine blk_alloc ?_ _)); exact BK180.out⟩, ⟨by repeat (first | (with_reducible first | exact HB.out | apply below_alloc | apply pw_below_drewN | apply below_drew1 | refine below_set ?_ GE177.out | refine below_set ?_ GE178.out | refine below_set ?_ GE179.out | refine below_set ?_ GE180.out) | exact HB.out)⟩⟩
          · rw [if_neg c39] at H
            have c39b0 : decide (a2_0 < 1) = false := decide_eq_false c39
            clear c39
            (first | rw [c39b0] | (simp only [i64_w, i32_w]; rw [c39b0]) | skip)
            have H' := Aside0.mk H
            clear H
            have hnb44 := NB179_177.out
            have hnc44 := NB177_179.out
            have hnb45 := NB179_178.out
            have hnc45 := NB178_179.out
            have hnb46 := NB179_180.out
            have hnc46 := NB180_179.out
            have hcz47_0 : wc.cell? ⟨gb179, 0, none⟩ = some (.int .i64 a2_0) := (blk_cell BK179.out 0).trans rfl
            have hcz47_1 : wc.cell? ⟨gb179, 1, none⟩ = some (.int .i64 a2_1) := (blk_cell BK179.out 1).trans rfl
            have hcz47_2 : wc.cell? ⟨gb179, 2, none⟩ = some (.int .i64 a2_2) := (blk_cell BK179.out 2).trans rfl
            have hfz47_0 := blk_frozen BK179.out 0
            have hfz47_1 := blk_frozen BK179.out 1
            have hfz47_2 := blk_frozen BK179.out 2
            go_wp2
            go_meet
            case rel => exact ⟨_, (decide (a2_0 > 17)), (by first | rfl | (simp; done) | (simp [*]; done)), H', ⟨by have := HJ4.out; first | omega | exact Nat.le_refl _⟩, ⟨by (with_reducible repeat (first | refine blk_drewN ?_ _ | refine blk_drew ?_ | refine blk_alloc ?_ _)); exact BK177.out⟩, ⟨by (with_reducible repeat (first | refine blk_drewN ?_ _ | refine blk_drew ?_ | refine blk_alloc ?_ _)); exact BK178.out⟩, ⟨by (with_reducible repeat (first | refine blk_drewN ?_ _ | refine blk_drew ?_ | refine blk_alloc ?_ _)); exact BK179.out⟩, ⟨by (with_reducible repeat (first | refine blk_drewN ?_ _ | refine blk_drew ?_ | refine blk_alloc ?_ _)); exact BK180.out⟩, ⟨by repeat (first | (with_reducible first | exact HB.out | apply below_alloc | apply pw_below_drewN | apply below_drew1 | refine below_set ?_ GE177.out | refine below_set ?_ GE178.out | refine below_set ?_ GE179.out | refine below_set ?_ GE180.out) | exact HB.out)⟩⟩
        case rest =>
          clear HC38
          try clear c1
          try clear c2
          try clear p2
          try clear c3
          try clear c4
          try clear c11
          try clear c13
          try clear c14
          try clear c15
          try clear c17
          try clear c18
          try clear c22
          try clear c25
          try clear c26
          try clear c27
          try clear c29
          try clear c30
          try clear c33
          try clear c34
          try clear c35
          try clear c36
          try clear c39
          try clear c39b0
          try clear c40
          try clear c41
          try clear c42
          try clear c44
          try clear c45
          try clear c46
          try clear hcz16_0
          try clear hcz16_1
          try clear hcz16_10
          try clear hcz16_11
          try clear hcz16_2
          try clear hcz16_3
          try clear hcz16_4
          try clear hcz16_5
          try clear hcz16_6
          try clear hcz16_7
          try clear hcz16_8
          try clear hcz16_9
          try clear hcz19_0
          try clear hcz19_1
          try clear hcz19_2
          try clear hcz21_0
          try clear hcz21_1
          try clear hcz21_10
          try clear hcz21_11
          try clear hcz21_2
          try clear hcz21_3
          try clear hcz21_4
          try clear hcz21_5
          try clear hcz21_6
          try clear hcz21_7
          try clear hcz21_8
          try clear hcz21_9
          try clear hcz23_0
          try clear hcz23_1
          try clear hcz23_2
          try clear hcz28_0
          try clear hcz28_1
          try clear hcz28_10
          try clear hcz28_11
          try clear hcz28_2
          try clear hcz28_3
          try clear hcz28_4
          try clear hcz28_5
          try clear hcz28_6
          try clear hcz28_7
          try clear hcz28_8
          try clear hcz28_9
          try clear hcz31_0
          try clear hcz31_1
          try clear hcz31_2
          try clear hcz37_0
          try clear hcz37_1
          try clear hcz37_2
          try clear hcz43_0
          try clear hcz43_1
          try clear hcz43_2
          try clear hcz47_0
          try clear hcz47_1
          try clear hcz47_2
          try clear hfz16_0
          try clear hfz16_1
          try clear hfz16_10
          try clear hfz16_11
          try clear hfz16_2
          try clear hfz16_3
          try clear hfz16_4
          try clear hfz16_5
          try clear hfz16_6
          try clear hfz16_7
          try clear hfz16_8
          try clear hfz16_9
          try clear hfz19_0
          try clear hfz19_1
          try clear hfz19_2
          try clear hfz21_0
          try clear hfz21_1
          try clear hfz21_10
          try clear hfz21_11
          try clear hfz21_2
          try clear hfz21_3
          try clear hfz21_4
          try clear hfz21_5
          try clear hfz21_6
          try clear hfz21_7
          try clear hfz21_8
          try clear hfz21_9
          try clear hfz23_0
          try clear hfz23_1
          try clear hfz23_2
          try clear hfz28_0
          try clear hfz28_1
          try clear hfz28_10
          try clear hfz28_11
          try clear hfz28_2
          try clear hfz28_3
          try clear hfz28_4
          try clear hfz28_5
          try clear hfz28_6
          try clear hfz28_7
          try clear hfz28_8
          try clear hfz28_9
          try clear hfz31_0
          try clear hfz31_1
          try clear hfz31_2
          try clear hfz37_0
          try clear hfz37_1
          try clear hfz37_2
          try clear hfz43_0
          try clear hfz43_1
          try clear hfz43_2
          try clear hfz47_0
          try clear hfz47_1
          try clear hfz47_2
          try clear p2
          obtain ⟨kq, x30_37, rfl, HA, HJ37, BK177, BK178, BK179, BK180, HB⟩ := hcut
          cases kq with
          | zero => exact absurd HA.out (by simp [plenumref14_Next.j1])
          | succ kj37 =>
            have H := HA.out
            clear HA
            simp only [plenumref14_Next.j1] at H
            by_cases c48 : x30_37 = true
            · subst c48
              have H1 : (some (0, 0, 0, 6)) = some (r1, r2, r3, r4) := by rw [if_pos rfl] at H; exact H
              clear H
              have H := H1
              clear H1
              simp only [Option.some.injEq, Prod.mk.injEq] at H
              obtain ⟨rfl, rfl, rfl, rfl⟩ := H
              have hnb49 := NB180_177.out
              have hnc49 := NB177_180.out
              have hnb50 := NB180_178.out
              have hnc50 := NB178_180.out
              have hnb51 := NB180_179.out
              have hnc51 := NB179_180.out
              have hcz52_0 : wc.cell? ⟨gb180, 0, none⟩ = some (.int .i64 0) := (blk_cell BK180.out 0).trans rfl
              have hcz52_1 : wc.cell? ⟨gb180, 1, none⟩ = some (.int .i64 0) := (blk_cell BK180.out 1).trans rfl
              have hcz52_2 : wc.cell? ⟨gb180, 2, none⟩ = some (.int .i64 0) := (blk_cell BK180.out 2).trans rfl
              have hfz52_0 := blk_frozen BK180.out 0
              have hfz52_1 := blk_frozen BK180.out 1
              have hfz52_2 := blk_frozen BK180.out 2
              go_wp2
              refine bodyPost_ret (results_ct rfl _ _ gb180 28 #[.int .i64 0, .int .i64 0, .int .i64 0] (0, 0) _ rfl (by (with_reducible repeat (first | refine blk_drewN ?_ _ | refine blk_drew ?_ | refine blk_alloc ?_ _)); refine blk_put (cs := #[.int .i64 0, .int .i64 0, .int .i64 0]) ?_ 2 _ rfl; (with_reducible repeat (first | refine blk_drewN ?_ _ | refine blk_drew ?_ | refine blk_alloc ?_ _)); refine blk_put (cs := #[.int .i64 0, .int .i64 0, .int .i64 0]) ?_ 1 _ rfl; (with_reducible repeat (first | refine blk_drewN ?_ _ | refine blk_drew ?_ | refine blk_alloc ?_ _)); refine blk_put (cs := #[.int .i64 0, .int .i64 0, .int .i64 0]) ?_ 0 _ rfl; (with_reducible repeat (first | refine blk_drewN ?_ _ | refine blk_drew ?_ | refine blk_alloc ?_ _)); exact BK180.out) Try.underlying28 rfl (by kernel_rfl)) rfl ?_
              exact ⟨by first | rfl | (simp [errW_none, errW_some] <;> rfl) | (simp [*, errW_none, errW_some] <;> rfl), by repeat (first | (with_reducible first | exact HB.out | apply below_alloc | apply pw_below_drewN | apply below_drew1 | refine below_set ?_ GE177.out | refine below_set ?_ GE178.out | refine below_set ?_ GE179.out | refine below_set ?_ GE180.out) | exact HB.out)⟩
            · replace c48 := Bool.eq_false_iff.mpr c48
              subst c48
              have H1 : (if a3 < a1_2 then (some (0, 0, 0, 8)) else ((plenumref14_Held.f kj37 a0_0 a0_1 a0_2 a0_3 a0_4 a0_5 a0_6 l0_7 a0_8 a0_9 a0_10 a0_11 a1_0 a1_1 a1_2 a3).bind fun t183 => (if t183 = true then (if a2_0 > 5 then (some (a1_0, a1_1, a1_2, 0)) else (if (a2_1 == a1_0 && (a2_2 == a1_1)) = true then (some (a1_0, a1_1, a1_2, 0)) else (some (a2_1, a2_2, a3, 0)))) else (if (a2_1 == a1_0 && (a2_2 == a1_1)) = true then (some (a1_0, a1_1, a1_2, 0)) else (some (a2_1, a2_2, a3, 0)))))) = some (r1, r2, r3, r4) := by rw [if_neg (show ¬ (false = true) by decide)] at H; exact H
              clear H
              have H := H1
              clear H1
              by_cases c53 : a3 < a1_2
              · rw [if_pos c53] at H
                have c53b0 : decide (a3 < a1_2) = true := decide_eq_true c53
                clear c53
                simp only [Option.some.injEq, Prod.mk.injEq] at H
                obtain ⟨rfl, rfl, rfl, rfl⟩ := H
                have hnb54 := NB178_177.out
                have hnc54 := NB177_178.out
                have hnb55 := NB178_179.out
                have hnc55 := NB179_178.out
                have hnb56 := NB178_180.out
                have hnc56 := NB180_178.out
                have hcz57_0 : wc.cell? ⟨gb178, 0, none⟩ = some (.int .i64 a1_0) := (blk_cell BK178.out 0).trans rfl
                have hcz57_1 : wc.cell? ⟨gb178, 1, none⟩ = some (.int .i64 a1_1) := (blk_cell BK178.out 1).trans rfl
                have hcz57_2 : wc.cell? ⟨gb178, 2, none⟩ = some (.int .i64 a1_2) := (blk_cell BK178.out 2).trans rfl
                have hfz57_0 := blk_frozen BK178.out 0
                have hfz57_1 := blk_frozen BK178.out 1
                have hfz57_2 := blk_frozen BK178.out 2
                have hnb58 := NB180_177.out
                have hnc58 := NB177_180.out
                have hnb59 := NB180_179.out
                have hnc59 := NB179_180.out
                have hcz60_0 : wc.cell? ⟨gb180, 0, none⟩ = some (.int .i64 0) := (blk_cell BK180.out 0).trans rfl
                have hcz60_1 : wc.cell? ⟨gb180, 1, none⟩ = some (.int .i64 0) := (blk_cell BK180.out 1).trans rfl
                have hcz60_2 : wc.cell? ⟨gb180, 2, none⟩ = some (.int .i64 0) := (blk_cell BK180.out 2).trans rfl
                have hfz60_0 := blk_frozen BK180.out 0
                have hfz60_1 := blk_frozen BK180.out 1
                have hfz60_2 := blk_frozen BK180.out 2
                go_wp2
                refine bodyPost_ret (results_ct rfl _ _ gb180 28 #[.int .i64 0, .int .i64 0, .int .i64 0] (0, 0) _ rfl (by (with_reducible repeat (first | refine blk_drewN ?_ _ | refine blk_drew ?_ | refine blk_alloc ?_ _)); refine blk_put (cs := #[.int .i64 0, .int .i64 0, .int .i64 0]) ?_ 2 _ rfl; (with_reducible repeat (first | refine blk_drewN ?_ _ | refine blk_drew ?_ | refine blk_alloc ?_ _)); refine blk_put (cs := #[.int .i64 0, .int .i64 0, .int .i64 0]) ?_ 1 _ rfl; (with_reducible repeat (first | refine blk_drewN ?_ _ | refine blk_drew ?_ | refine blk_alloc ?_ _)); refine blk_put (cs := #[.int .i64 0, .int .i64 0, .int .i64 0]) ?_ 0 _ rfl; (with_reducible repeat (first | refine blk_drewN ?_ _ | refine blk_drew ?_ | refine blk_alloc ?_ _)); exact BK180.out) Try.underlying28 rfl (by kernel_rfl)) rfl ?_
                exact ⟨by first | rfl | (simp [errW_none, errW_some] <;> rfl) | (simp [*, errW_none, errW_some] <;> rfl), by repeat (first | (with_reducible first | exact HB.out | apply below_alloc | apply pw_below_drewN | apply below_drew1 | refine below_set ?_ GE177.out | refine below_set ?_ GE178.out | refine below_set ?_ GE179.out | refine below_set ?_ GE180.out) | exact HB.out)⟩
              · rw [if_neg c53] at H
                have c53b0 : decide (a3 < a1_2) = false := decide_eq_false c53
                clear c53
                replace H := Option.bind_eq_some_iff.mp H
                obtain ⟨t183, A610, H⟩ := H
                replace H : (if t183 = true then (if a2_0 > 5 then (some (a1_0, a1_1, a1_2, 0)) else (if (a2_1 == a1_0 && (a2_2 == a1_1)) = true then (some (a1_0, a1_1, a1_2, 0)) else (some (a2_1, a2_2, a3, 0)))) else (if (a2_1 == a1_0 && (a2_2 == a1_1)) = true then (some (a1_0, a1_1, a1_2, 0)) else (some (a2_1, a2_2, a3, 0)))) = some (r1, r2, r3, r4) := H
                have A61 := Aside0.mk A610
                clear A610
                by_cases c62 : t183 = true
                · subst c62
                  have H1 : (if a2_0 > 5 then (some (a1_0, a1_1, a1_2, 0)) else (if (a2_1 == a1_0 && (a2_2 == a1_1)) = true then (some (a1_0, a1_1, a1_2, 0)) else (some (a2_1, a2_2, a3, 0)))) = some (r1, r2, r3, r4) := by rw [if_pos rfl] at H; exact H
                  clear H
                  have H := H1
                  clear H1
                  by_cases c63 : a2_0 > 5
                  · rw [if_pos c63] at H
                    have c63b0 : decide (5 < a2_0) = true := decide_eq_true c63
                    clear c63
                    simp only [Option.some.injEq, Prod.mk.injEq] at H
                    obtain ⟨rfl, rfl, rfl, rfl⟩ := H
                    have hnb64 := NB178_177.out
                    have hnc64 := NB177_178.out
                    have hnb65 := NB178_179.out
                    have hnc65 := NB179_178.out
                    have hnb66 := NB178_180.out
                    have hnc66 := NB180_178.out
                    have hcz67_0 : wc.cell? ⟨gb178, 0, none⟩ = some (.int .i64 a1_0) := (blk_cell BK178.out 0).trans rfl
                    have hcz67_1 : wc.cell? ⟨gb178, 1, none⟩ = some (.int .i64 a1_1) := (blk_cell BK178.out 1).trans rfl
                    have hcz67_2 : wc.cell? ⟨gb178, 2, none⟩ = some (.int .i64 a1_2) := (blk_cell BK178.out 2).trans rfl
                    have hfz67_0 := blk_frozen BK178.out 0
                    have hfz67_1 := blk_frozen BK178.out 1
                    have hfz67_2 := blk_frozen BK178.out 2
                    have hnb68 := NB177_179.out
                    have hnc68 := NB179_177.out
                    have hnb69 := NB177_180.out
                    have hnc69 := NB180_177.out
                    have hcz70_0 : wc.cell? ⟨gb177, 0, none⟩ = some (.string a0_0) := (blk_cell BK177.out 0).trans rfl
                    have hcz70_1 : wc.cell? ⟨gb177, 1, none⟩ = some (.int .i64 a0_1) := (blk_cell BK177.out 1).trans rfl
                    have hcz70_2 : wc.cell? ⟨gb177, 2, none⟩ = some (.int .i64 a0_2) := (blk_cell BK177.out 2).trans rfl
                    have hcz70_3 : wc.cell? ⟨gb177, 3, none⟩ = some (.string a0_3) := (blk_cell BK177.out 3).trans rfl
                    have hcz70_4 : wc.cell? ⟨gb177, 4, none⟩ = some (.int .i64 a0_4) := (blk_cell BK177.out 4).trans rfl
                    have hcz70_5 : wc.cell? ⟨gb177, 5, none⟩ = some (.int .i64 a0_5) := (blk_cell BK177.out 5).trans rfl
                    have hcz70_6 : wc.cell? ⟨gb177, 6, none⟩ = some (.int .i64 a0_6) := (blk_cell BK177.out 6).trans rfl
                    have hcz70_7 : wc.cell? ⟨gb177, 7, none⟩ = some (.slice A0_7 l0_7.length c0_7) := (blk_cell BK177.out 7).trans rfl
                    have hcz70_8 : wc.cell? ⟨gb177, 8, none⟩ = some (.int .i64 a0_8) := (blk_cell BK177.out 8).trans rfl
                    have hcz70_9 : wc.cell? ⟨gb177, 9, none⟩ = some (.int .i64 a0_9) := (blk_cell BK177.out 9).trans rfl
                    have hcz70_10 : wc.cell? ⟨gb177, 10, none⟩ = some (.int .i64 a0_10) := (blk_cell BK177.out 10).trans rfl
                    have hcz70_11 : wc.cell? ⟨gb177, 11, none⟩ = some (.int .i64 a0_11) := (blk_cell BK177.out 11).trans rfl
                    have hfz70_0 := blk_frozen BK177.out 0
                    have hfz70_1 := blk_frozen BK177.out 1
                    have hfz70_2 := blk_frozen BK177.out 2
                    have hfz70_3 := blk_frozen BK177.out 3
                    have hfz70_4 := blk_frozen BK177.out 4
                    have hfz70_5 := blk_frozen BK177.out 5
                    have hfz70_6 := blk_frozen BK177.out 6
                    have hfz70_7 := blk_frozen BK177.out 7
                    have hfz70_8 := blk_frozen BK177.out 8
                    have hfz70_9 := blk_frozen BK177.out 9
                    have hfz70_10 := blk_frozen BK177.out 10
                    have hfz70_11 := blk_frozen BK177.out 11
                    go_wp2_with (first | ((with_reducible refine gate_callee (f := 23) rfl ?_); refine goesL_ (some 40) rfl rfl Try.func23 (by kernel_rfl) rfl #[.agg #[.string a0_0, .int .i64 a0_1, .int .i64 a0_2, .string a0_3, .int .i64 a0_4, .int .i64 a0_5, .int .i64 a0_6, .slice A0_7 l0_7.length c0_7, .int .i64 a0_8, .int .i64 a0_9, .int .i64 a0_10, .int .i64 a0_11], .agg #[.int .i64 a1_0, .int .i64 a1_1, .int .i64 a1_2], .int .i64 a3] rfl (by (try simp only [List.map_toArray, List.map_cons, List.map_nil]); first | done | rfl | (simp only [List.length_drop, List.length_take]; rfl)) ?_; (with_reducible refine (plenumref14_Held.calls kj37 a0_0 a0_1 a0_2 a0_3 a0_4 a0_5 a0_6 _ _ l0_7 a0_8 a0_9 a0_10 a0_11 a1_0 a1_1 a1_2 a3 true _ ?side1 ?side2 A61.out).mono ?_); (case side1 => repeat (first | exact (Kd.C_below HR0_7.out HB.out) | (with_reducible refine Kd.C_alloc ?_ _) | (with_reducible refine Kd.C_drewN ?_ _) | (with_reducible refine Kd.C_drew ?_))); (case side2 => exact HC0_7.out); rintro e w71 ⟨rfl, hb⟩; refine ⟨_, rfl, ?_⟩; have n0_ := Aside0.mk (blk_below (g := gb177) (o := .cells #[.string a0_0, .int .i64 a0_1, .int .i64 a0_2, .string a0_3, .int .i64 a0_4, .int .i64 a0_5, .int .i64 a0_6, .slice A0_7 l0_7.length c0_7, .int .i64 a0_8, .int .i64 a0_9, .int .i64 a0_10, .int .i64 a0_11] 26 (0, 0)) (by (with_reducible repeat (first | refine blk_drewN ?_ _ | refine blk_drew ?_ | refine blk_alloc ?_ _)); exact BK177.out) hb); have n1_ := Aside0.mk (blk_below (g := gb178) (o := .cells #[.int .i64 a1_0, .int .i64 a1_1, .int .i64 a1_2] 28 (0, 0)) (by (with_reducible repeat (first | refine blk_drewN ?_ _ | refine blk_drew ?_ | refine blk_alloc ?_ _)); exact BK178.out) hb); have n2_ := Aside0.mk (blk_below (g := gb179) (o := .cells #[.int .i64 a2_0, .int .i64 a2_1, .int .i64 a2_2] 30 (0, 0)) (by (with_reducible repeat (first | refine blk_drewN ?_ _ | refine blk_drew ?_ | refine blk_alloc ?_ _)); exact BK179.out) hb); have n3_ := Aside0.mk (blk_below (g := gb180) (o := .cells #[.int .i64 0, .int .i64 0, .int .i64 0] 28 (0, 0)) (by (with_reducible repeat (first | refine blk_drewN ?_ _ | refine blk_drew ?_ | refine blk_alloc ?_ _)); exact BK180.out) hb); have n4_ := Aside0.mk (below_step (by repeat (first | (with_reducible first | exact HB.out | apply below_alloc | apply pw_below_drewN | apply below_drew1 | refine below_set ?_ GE177.out | refine below_set ?_ GE178.out | refine below_set ?_ GE179.out | refine below_set ?_ GE180.out) | exact HB.out)) hb); clear BK177; clear BK178; clear BK179; clear BK180; clear HB; have BK177 := n0_; have BK178 := n1_; have BK179 := n2_; have BK180 := n3_; have HB := n4_; clear n0_ n1_ n2_ n3_ n4_; (try clear hb); (try clear hb2); (try clear hk); (try clear hi); have hnb72 := NB179_180.out; have hnc72 := NB180_179.out; have hcz73_0 : w71.cell? ⟨gb179, 0, none⟩ = some (.int .i64 a2_0) := (blk_cell BK179.out 0).trans rfl; have hcz73_1 : w71.cell? ⟨gb179, 1, none⟩ = some (.int .i64 a2_1) := (blk_cell BK179.out 1).trans rfl; have hcz73_2 : w71.cell? ⟨gb179, 2, none⟩ = some (.int .i64 a2_2) := (blk_cell BK179.out 2).trans rfl; have hfz73_0 := blk_frozen BK179.out 0; have hfz73_1 := blk_frozen BK179.out 1; have hfz73_2 := blk_frozen BK179.out 2; have hcz74_0 : w71.cell? ⟨gb178, 0, none⟩ = some (.int .i64 a1_0) := (blk_cell BK178.out 0).trans rfl; have hcz74_1 : w71.cell? ⟨gb178, 1, none⟩ = some (.int .i64 a1_1) := (blk_cell BK178.out 1).trans rfl; have hcz74_2 : w71.cell? ⟨gb178, 2, none⟩ = some (.int .i64 a1_2) := (blk_cell BK178.out 2).trans rfl; have hfz74_0 := blk_frozen BK178.out 0; have hfz74_1 := blk_frozen BK178.out 1; have hfz74_2 := blk_frozen BK178.out 2; have hcz75_0 : w71.cell? ⟨gb180, 0, none⟩ = some (.int .i64 0) := (blk_cell BK180.out 0).trans rfl; have hcz75_1 : w71.cell? ⟨gb180, 1, none⟩ = some (.int .i64 0) := (blk_cell BK180.out 1).trans rfl; have hcz75_2 : w71.cell? ⟨gb180, 2, none⟩ = some (.int .i64 0) := (blk_cell BK180.out 2).trans rfl; have hfz75_0 := blk_frozen BK180.out 0; have hfz75_1 := blk_frozen BK180.out 1; have hfz75_2 := blk_frozen BK180.out 2))
                    refine bodyPost_ret (results_ct rfl _ _ gb180 28 #[.int .i64 a1_0, .int .i64 a1_1, .int .i64 a1_2] (0, 0) _ rfl (by (with_reducible repeat (first | refine blk_drewN ?_ _ | refine blk_drew ?_ | refine blk_alloc ?_ _)); refine blk_put (cs := #[.int .i64 a1_0, .int .i64 a1_1, .int .i64 0]) ?_ 2 _ rfl; (with_reducible repeat (first | refine blk_drewN ?_ _ | refine blk_drew ?_ | refine blk_alloc ?_ _)); refine blk_put (cs := #[.int .i64 a1_0, .int .i64 0, .int .i64 0]) ?_ 1 _ rfl; (with_reducible repeat (first | refine blk_drewN ?_ _ | refine blk_drew ?_ | refine blk_alloc ?_ _)); refine blk_put (cs := #[.int .i64 0, .int .i64 0, .int .i64 0]) ?_ 0 _ rfl; (with_reducible repeat (first | refine blk_drewN ?_ _ | refine blk_drew ?_ | refine blk_alloc ?_ _)); exact BK180.out) Try.underlying28 rfl (by kernel_rfl)) rfl ?_
                    exact ⟨by first | rfl | (simp [errW_none, errW_some] <;> rfl) | (simp [*, errW_none, errW_some] <;> rfl), by repeat (first | (with_reducible first | exact HB.out | apply below_alloc | apply pw_below_drewN | apply below_drew1 | refine below_set ?_ GE177.out | refine below_set ?_ GE178.out | refine below_set ?_ GE179.out | refine below_set ?_ GE180.out) | exact HB.out)⟩
                  · rw [if_neg c63] at H
                    have c63b0 : decide (5 < a2_0) = false := decide_eq_false c63
                    clear c63
                    by_cases c76 : (a2_1 == a1_0 && (a2_2 == a1_1)) = true
                    · rw [if_pos c76] at H
                      have c76b0 : (a2_1 == a1_0 && (a2_2 == a1_1)) = true := c76
                      (try (have c76b1 : decide (a2_1 = a1_0 && (a2_2 == a1_1)) = true := by simpa using c76))
                      (try (have c76b2 : (a2_1 == a1_0 && (a2_2 == a1_1)) = true := by simpa using c76))
                      clear c76
                      simp only [Option.some.injEq, Prod.mk.injEq] at H
                      obtain ⟨rfl, rfl, rfl, rfl⟩ := H
                      have hnb77 := NB178_177.out
                      have hnc77 := NB177_178.out
                      have hnb78 := NB178_179.out
                      have hnc78 := NB179_178.out
                      have hnb79 := NB178_180.out
                      have hnc79 := NB180_178.out
                      have hcz80_0 : wc.cell? ⟨gb178, 0, none⟩ = some (.int .i64 a1_0) := (blk_cell BK178.out 0).trans rfl
                      have hcz80_1 : wc.cell? ⟨gb178, 1, none⟩ = some (.int .i64 a1_1) := (blk_cell BK178.out 1).trans rfl
                      have hcz80_2 : wc.cell? ⟨gb178, 2, none⟩ = some (.int .i64 a1_2) := (blk_cell BK178.out 2).trans rfl
                      have hfz80_0 := blk_frozen BK178.out 0
                      have hfz80_1 := blk_frozen BK178.out 1
                      have hfz80_2 := blk_frozen BK178.out 2
                      have hnb81 := NB177_179.out
                      have hnc81 := NB179_177.out
                      have hnb82 := NB177_180.out
                      have hnc82 := NB180_177.out
                      have hcz83_0 : wc.cell? ⟨gb177, 0, none⟩ = some (.string a0_0) := (blk_cell BK177.out 0).trans rfl
                      have hcz83_1 : wc.cell? ⟨gb177, 1, none⟩ = some (.int .i64 a0_1) := (blk_cell BK177.out 1).trans rfl
                      have hcz83_2 : wc.cell? ⟨gb177, 2, none⟩ = some (.int .i64 a0_2) := (blk_cell BK177.out 2).trans rfl
                      have hcz83_3 : wc.cell? ⟨gb177, 3, none⟩ = some (.string a0_3) := (blk_cell BK177.out 3).trans rfl
                      have hcz83_4 : wc.cell? ⟨gb177, 4, none⟩ = some (.int .i64 a0_4) := (blk_cell BK177.out 4).trans rfl
                      have hcz83_5 : wc.cell? ⟨gb177, 5, none⟩ = some (.int .i64 a0_5) := (blk_cell BK177.out 5).trans rfl
                      have hcz83_6 : wc.cell? ⟨gb177, 6, none⟩ = some (.int .i64 a0_6) := (blk_cell BK177.out 6).trans rfl
                      have hcz83_7 : wc.cell? ⟨gb177, 7, none⟩ = some (.slice A0_7 l0_7.length c0_7) := (blk_cell BK177.out 7).trans rfl
                      have hcz83_8 : wc.cell? ⟨gb177, 8, none⟩ = some (.int .i64 a0_8) := (blk_cell BK177.out 8).trans rfl
                      have hcz83_9 : wc.cell? ⟨gb177, 9, none⟩ = some (.int .i64 a0_9) := (blk_cell BK177.out 9).trans rfl
                      have hcz83_10 : wc.cell? ⟨gb177, 10, none⟩ = some (.int .i64 a0_10) := (blk_cell BK177.out 10).trans rfl
                      have hcz83_11 : wc.cell? ⟨gb177, 11, none⟩ = some (.int .i64 a0_11) := (blk_cell BK177.out 11).trans rfl
                      have hfz83_0 := blk_frozen BK177.out 0
                      have hfz83_1 := blk_frozen BK177.out 1
                      have hfz83_2 := blk_frozen BK177.out 2
                      have hfz83_3 := blk_frozen BK177.out 3
                      have hfz83_4 := blk_frozen BK177.out 4
                      have hfz83_5 := blk_frozen BK177.out 5
                      have hfz83_6 := blk_frozen BK177.out 6
                      have hfz83_7 := blk_frozen BK177.out 7
                      have hfz83_8 := blk_frozen BK177.out 8
                      have hfz83_9 := blk_frozen BK177.out 9
                      have hfz83_10 := blk_frozen BK177.out 10
                      have hfz83_11 := blk_frozen BK177.out 11
                      go_wp2_with (first | ((with_reducible refine gate_callee (f := 23) rfl ?_); refine goesL_ (some 40) rfl rfl Try.func23 (by kernel_rfl) rfl #[.agg #[.string a0_0, .int .i64 a0_1, .int .i64 a0_2, .string a0_3, .int .i64 a0_4, .int .i64 a0_5, .int .i64 a0_6, .slice A0_7 l0_7.length c0_7, .int .i64 a0_8, .int .i64 a0_9, .int .i64 a0_10, .int .i64 a0_11], .agg #[.int .i64 a1_0, .int .i64 a1_1, .int .i64 a1_2], .int .i64 a3] rfl (by (try simp only [List.map_toArray, List.map_cons, List.map_nil]); first | done | rfl | (simp only [List.length_drop, List.length_take]; rfl)) ?_; (with_reducible refine (plenumref14_Held.calls kj37 a0_0 a0_1 a0_2 a0_3 a0_4 a0_5 a0_6 _ _ l0_7 a0_8 a0_9 a0_10 a0_11 a1_0 a1_1 a1_2 a3 true _ ?side1 ?side2 A61.out).mono ?_); (case side1 => repeat (first | exact (Kd.C_below HR0_7.out HB.out) | (with_reducible refine Kd.C_alloc ?_ _) | (with_reducible refine Kd.C_drewN ?_ _) | (with_reducible refine Kd.C_drew ?_))); (case side2 => exact HC0_7.out); rintro e w84 ⟨rfl, hb⟩; refine ⟨_, rfl, ?_⟩; have n0_ := Aside0.mk (blk_below (g := gb177) (o := .cells #[.string a0_0, .int .i64 a0_1, .int .i64 a0_2, .string a0_3, .int .i64 a0_4, .int .i64 a0_5, .int .i64 a0_6, .slice A0_7 l0_7.length c0_7, .int .i64 a0_8, .int .i64 a0_9, .int .i64 a0_10, .int .i64 a0_11] 26 (0, 0)) (by (with_reducible repeat (first | refine blk_drewN ?_ _ | refine blk_drew ?_ | refine blk_alloc ?_ _)); exact BK177.out) hb); have n1_ := Aside0.mk (blk_below (g := gb178) (o := .cells #[.int .i64 a1_0, .int .i64 a1_1, .int .i64 a1_2] 28 (0, 0)) (by (with_reducible repeat (first | refine blk_drewN ?_ _ | refine blk_drew ?_ | refine blk_alloc ?_ _)); exact BK178.out) hb); have n2_ := Aside0.mk (blk_below (g := gb179) (o := .cells #[.int .i64 a2_0, .int .i64 a2_1, .int .i64 a2_2] 30 (0, 0)) (by (with_reducible repeat (first | refine blk_drewN ?_ _ | refine blk_drew ?_ | refine blk_alloc ?_ _)); exact BK179.out) hb); have n3_ := Aside0.mk (blk_below (g := gb180) (o := .cells #[.int .i64 0, .int .i64 0, .int .i64 0] 28 (0, 0)) (by (with_reducible repeat (first | refine blk_drewN ?_ _ | refine blk_drew ?_ | refine blk_alloc ?_ _)); exact BK180.out) hb); have n4_ := Aside0.mk (below_step (by repeat (first | (with_reducible first | exact HB.out | apply below_alloc | apply pw_below_drewN | apply below_drew1 | refine below_set ?_ GE177.out | refine below_set ?_ GE178.out | refine below_set ?_ GE179.out | refine below_set ?_ GE180.out) | exact HB.out)) hb); clear BK177; clear BK178; clear BK179; clear BK180; clear HB; have BK177 := n0_; have BK178 := n1_; have BK179 := n2_; have BK180 := n3_; have HB := n4_; clear n0_ n1_ n2_ n3_ n4_; (try clear hb); (try clear hb2); (try clear hk); (try clear hi); have hnb85 := NB179_180.out; have hnc85 := NB180_179.out; have hcz86_0 : w84.cell? ⟨gb179, 0, none⟩ = some (.int .i64 a2_0) := (blk_cell BK179.out 0).trans rfl; have hcz86_1 : w84.cell? ⟨gb179, 1, none⟩ = some (.int .i64 a2_1) := (blk_cell BK179.out 1).trans rfl; have hcz86_2 : w84.cell? ⟨gb179, 2, none⟩ = some (.int .i64 a2_2) := (blk_cell BK179.out 2).trans rfl; have hfz86_0 := blk_frozen BK179.out 0; have hfz86_1 := blk_frozen BK179.out 1; have hfz86_2 := blk_frozen BK179.out 2; have hcz87_0 : w84.cell? ⟨gb178, 0, none⟩ = some (.int .i64 a1_0) := (blk_cell BK178.out 0).trans rfl; have hcz87_1 : w84.cell? ⟨gb178, 1, none⟩ = some (.int .i64 a1_1) := (blk_cell BK178.out 1).trans rfl; have hcz87_2 : w84.cell? ⟨gb178, 2, none⟩ = some (.int .i64 a1_2) := (blk_cell BK178.out 2).trans rfl; have hfz87_0 := blk_frozen BK178.out 0; have hfz87_1 := blk_frozen BK178.out 1; have hfz87_2 := blk_frozen BK178.out 2; have hcz88_0 : w84.cell? ⟨gb180, 0, none⟩ = some (.int .i64 0) := (blk_cell BK180.out 0).trans rfl; have hcz88_1 : w84.cell? ⟨gb180, 1, none⟩ = some (.int .i64 0) := (blk_cell BK180.out 1).trans rfl; have hcz88_2 : w84.cell? ⟨gb180, 2, none⟩ = some (.int .i64 0) := (blk_cell BK180.out 2).trans rfl; have hfz88_0 := blk_frozen BK180.out 0; have hfz88_1 := blk_frozen BK180.out 1; have hfz88_2 := blk_frozen BK180.out 2))
                      refine bodyPost_ret (results_ct rfl _ _ gb180 28 #[.int .i64 a1_0, .int .i64 a1_1, .int .i64 a1_2] (0, 0) _ rfl (by (with_reducible repeat (first | refine blk_drewN ?_ _ | refine blk_drew ?_ | refine blk_alloc ?_ _)); refine blk_put (cs := #[.int .i64 a1_0, .int .i64 a1_1, .int .i64 0]) ?_ 2 _ rfl; (with_reducible repeat (first | refine blk_drewN ?_ _ | refine blk_drew ?_ | refine blk_alloc ?_ _)); refine blk_put (cs := #[.int .i64 a1_0, .int .i64 0, .int .i64 0]) ?_ 1 _ rfl; (with_reducible repeat (first | refine blk_drewN ?_ _ | refine blk_drew ?_ | refine blk_alloc ?_ _)); refine blk_put (cs := #[.int .i64 0, .int .i64 0, .int .i64 0]) ?_ 0 _ rfl; (with_reducible repeat (first | refine blk_drewN ?_ _ | refine blk_drew ?_ | refine blk_alloc ?_ _)); exact BK180.out) Try.underlying28 rfl (by kernel_rfl)) rfl ?_
                      exact ⟨by first | rfl | (simp [errW_none, errW_some] <;> rfl) | (simp [*, errW_none, errW_some] <;> rfl), by repeat (first | (with_reducible first | exact HB.out | apply below_alloc | apply pw_below_drewN | apply below_drew1 | refine below_set ?_ GE177.out | refine below_set ?_ GE178.out | refine below_set ?_ GE179.out | refine below_set ?_ GE180.out) | exact HB.out)⟩
                    · rw [if_neg c76] at H
                      have c76b0 : (a2_1 == a1_0 && (a2_2 == a1_1)) = false := by simpa using c76
                      (try (have c76b1 : decide (a2_1 = a1_0 && (a2_2 == a1_1)) = false := by simpa using c76))
                      (try (have c76b2 : (a2_1 == a1_0 && (a2_2 == a1_1)) = false := by simpa using c76))
                      (try (have c76b3 : ¬ (a2_1 = a1_0 && (a2_2 == a1_1)) := by simpa using c76))
                      clear c76
                      simp only [Option.some.injEq, Prod.mk.injEq] at H
                      obtain ⟨rfl, rfl, rfl, rfl⟩ := H
                      have hnb89 := NB178_177.out
                      have hnc89 := NB177_178.out
                      have hnb90 := NB178_179.out
                      have hnc90 := NB179_178.out
                      have hnb91 := NB178_180.out
                      have hnc91 := NB180_178.out
                      have hcz92_0 : wc.cell? ⟨gb178, 0, none⟩ = some (.int .i64 a1_0) := (blk_cell BK178.out 0).trans rfl
                      have hcz92_1 : wc.cell? ⟨gb178, 1, none⟩ = some (.int .i64 a1_1) := (blk_cell BK178.out 1).trans rfl
                      have hcz92_2 : wc.cell? ⟨gb178, 2, none⟩ = some (.int .i64 a1_2) := (blk_cell BK178.out 2).trans rfl
                      have hfz92_0 := blk_frozen BK178.out 0
                      have hfz92_1 := blk_frozen BK178.out 1
                      have hfz92_2 := blk_frozen BK178.out 2
                      have hnb93 := NB177_179.out
                      have hnc93 := NB179_177.out
                      have hnb94 := NB177_180.out
                      have hnc94 := NB180_177.out
                      have hcz95_0 : wc.cell? ⟨gb177, 0, none⟩ = some (.string a0_0) := (blk_cell BK177.out 0).trans rfl
                      have hcz95_1 : wc.cell? ⟨gb177, 1, none⟩ = some (.int .i64 a0_1) := (blk_cell BK177.out 1).trans rfl
                      have hcz95_2 : wc.cell? ⟨gb177, 2, none⟩ = some (.int .i64 a0_2) := (blk_cell BK177.out 2).trans rfl
                      have hcz95_3 : wc.cell? ⟨gb177, 3, none⟩ = some (.string a0_3) := (blk_cell BK177.out 3).trans rfl
                      have hcz95_4 : wc.cell? ⟨gb177, 4, none⟩ = some (.int .i64 a0_4) := (blk_cell BK177.out 4).trans rfl
                      have hcz95_5 : wc.cell? ⟨gb177, 5, none⟩ = some (.int .i64 a0_5) := (blk_cell BK177.out 5).trans rfl
                      have hcz95_6 : wc.cell? ⟨gb177, 6, none⟩ = some (.int .i64 a0_6) := (blk_cell BK177.out 6).trans rfl
                      have hcz95_7 : wc.cell? ⟨gb177, 7, none⟩ = some (.slice A0_7 l0_7.length c0_7) := (blk_cell BK177.out 7).trans rfl
                      have hcz95_8 : wc.cell? ⟨gb177, 8, none⟩ = some (.int .i64 a0_8) := (blk_cell BK177.out 8).trans rfl
                      have hcz95_9 : wc.cell? ⟨gb177, 9, none⟩ = some (.int .i64 a0_9) := (blk_cell BK177.out 9).trans rfl
                      have hcz95_10 : wc.cell? ⟨gb177, 10, none⟩ = some (.int .i64 a0_10) := (blk_cell BK177.out 10).trans rfl
                      have hcz95_11 : wc.cell? ⟨gb177, 11, none⟩ = some (.int .i64 a0_11) := (blk_cell BK177.out 11).trans rfl
                      have hfz95_0 := blk_frozen BK177.out 0
                      have hfz95_1 := blk_frozen BK177.out 1
                      have hfz95_2 := blk_frozen BK177.out 2
                      have hfz95_3 := blk_frozen BK177.out 3
                      have hfz95_4 := blk_frozen BK177.out 4
                      have hfz95_5 := blk_frozen BK177.out 5
                      have hfz95_6 := blk_frozen BK177.out 6
                      have hfz95_7 := blk_frozen BK177.out 7
                      have hfz95_8 := blk_frozen BK177.out 8
                      have hfz95_9 := blk_frozen BK177.out 9
                      have hfz95_10 := blk_frozen BK177.out 10
                      have hfz95_11 := blk_frozen BK177.out 11
                      go_wp2_with (first | ((with_reducible refine gate_callee (f := 23) rfl ?_); refine goesL_ (some 40) rfl rfl Try.func23 (by kernel_rfl) rfl #[.agg #[.string a0_0, .int .i64 a0_1, .int .i64 a0_2, .string a0_3, .int .i64 a0_4, .int .i64 a0_5, .int .i64 a0_6, .slice A0_7 l0_7.length c0_7, .int .i64 a0_8, .int .i64 a0_9, .int .i64 a0_10, .int .i64 a0_11], .agg #[.int .i64 a1_0, .int .i64 a1_1, .int .i64 a1_2], .int .i64 a3] rfl (by (try simp only [List.map_toArray, List.map_cons, List.map_nil]); first | done | rfl | (simp only [List.length_drop, List.length_take]; rfl)) ?_; (with_reducible refine (plenumref14_Held.calls kj37 a0_0 a0_1 a0_2 a0_3 a0_4 a0_5 a0_6 _ _ l0_7 a0_8 a0_9 a0_10 a0_11 a1_0 a1_1 a1_2 a3 true _ ?side1 ?side2 A61.out).mono ?_); (case side1 => repeat (first | exact (Kd.C_below HR0_7.out HB.out) | (with_reducible refine Kd.C_alloc ?_ _) | (with_reducible refine Kd.C_drewN ?_ _) | (with_reducible refine Kd.C_drew ?_))); (case side2 => exact HC0_7.out); rintro e w96 ⟨rfl, hb⟩; refine ⟨_, rfl, ?_⟩; have n0_ := Aside0.mk (blk_below (g := gb177) (o := .cells #[.string a0_0, .int .i64 a0_1, .int .i64 a0_2, .string a0_3, .int .i64 a0_4, .int .i64 a0_5, .int .i64 a0_6, .slice A0_7 l0_7.length c0_7, .int .i64 a0_8, .int .i64 a0_9, .int .i64 a0_10, .int .i64 a0_11] 26 (0, 0)) (by (with_reducible repeat (first | refine blk_drewN ?_ _ | refine blk_drew ?_ | refine blk_alloc ?_ _)); exact BK177.out) hb); have n1_ := Aside0.mk (blk_below (g := gb178) (o := .cells #[.int .i64 a1_0, .int .i64 a1_1, .int .i64 a1_2] 28 (0, 0)) (by (with_reducible repeat (first | refine blk_drewN ?_ _ | refine blk_drew ?_ | refine blk_alloc ?_ _)); exact BK178.out) hb); have n2_ := Aside0.mk (blk_below (g := gb179) (o := .cells #[.int .i64 a2_0, .int .i64 a2_1, .int .i64 a2_2] 30 (0, 0)) (by (with_reducible repeat (first | refine blk_drewN ?_ _ | refine blk_drew ?_ | refine blk_alloc ?_ _)); exact BK179.out) hb); have n3_ := Aside0.mk (blk_below (g := gb180) (o := .cells #[.int .i64 0, .int .i64 0, .int .i64 0] 28 (0, 0)) (by (with_reducible repeat (first | refine blk_drewN ?_ _ | refine blk_drew ?_ | refine blk_alloc ?_ _)); exact BK180.out) hb); have n4_ := Aside0.mk (below_step (by repeat (first | (with_reducible first | exact HB.out | apply below_alloc | apply pw_below_drewN | apply below_drew1 | refine below_set ?_ GE177.out | refine below_set ?_ GE178.out | refine below_set ?_ GE179.out | refine below_set ?_ GE180.out) | exact HB.out)) hb); clear BK177; clear BK178; clear BK179; clear BK180; clear HB; have BK177 := n0_; have BK178 := n1_; have BK179 := n2_; have BK180 := n3_; have HB := n4_; clear n0_ n1_ n2_ n3_ n4_; (try clear hb); (try clear hb2); (try clear hk); (try clear hi); have hnb97 := NB179_180.out; have hnc97 := NB180_179.out; have hcz98_0 : w96.cell? ⟨gb179, 0, none⟩ = some (.int .i64 a2_0) := (blk_cell BK179.out 0).trans rfl; have hcz98_1 : w96.cell? ⟨gb179, 1, none⟩ = some (.int .i64 a2_1) := (blk_cell BK179.out 1).trans rfl; have hcz98_2 : w96.cell? ⟨gb179, 2, none⟩ = some (.int .i64 a2_2) := (blk_cell BK179.out 2).trans rfl; have hfz98_0 := blk_frozen BK179.out 0; have hfz98_1 := blk_frozen BK179.out 1; have hfz98_2 := blk_frozen BK179.out 2; have hcz99_0 : w96.cell? ⟨gb178, 0, none⟩ = some (.int .i64 a1_0) := (blk_cell BK178.out 0).trans rfl; have hcz99_1 : w96.cell? ⟨gb178, 1, none⟩ = some (.int .i64 a1_1) := (blk_cell BK178.out 1).trans rfl; have hcz99_2 : w96.cell? ⟨gb178, 2, none⟩ = some (.int .i64 a1_2) := (blk_cell BK178.out 2).trans rfl; have hfz99_0 := blk_frozen BK178.out 0; have hfz99_1 := blk_frozen BK178.out 1; have hfz99_2 := blk_frozen BK178.out 2; have hcz100_0 : w96.cell? ⟨gb180, 0, none⟩ = some (.int .i64 0) := (blk_cell BK180.out 0).trans rfl; have hcz100_1 : w96.cell? ⟨gb180, 1, none⟩ = some (.int .i64 0) := (blk_cell BK180.out 1).trans rfl; have hcz100_2 : w96.cell? ⟨gb180, 2, none⟩ = some (.int .i64 0) := (blk_cell BK180.out 2).trans rfl; have hfz100_0 := blk_frozen BK180.out 0; have hfz100_1 := blk_frozen BK180.out 1; have hfz100_2 := blk_frozen BK180.out 2))
                      refine bodyPost_ret (results_ct rfl _ _ gb180 28 #[.int .i64 a2_1, .int .i64 a2_2, .int .i64 a3] (0, 0) _ rfl (by (with_reducible repeat (first | refine blk_drewN ?_ _ | refine blk_drew ?_ | refine blk_alloc ?_ _)); refine blk_put (cs := #[.int .i64 a2_1, .int .i64 a2_2, .int .i64 0]) ?_ 2 _ rfl; (with_reducible repeat (first | refine blk_drewN ?_ _ | refine blk_drew ?_ | refine blk_alloc ?_ _)); refine blk_put (cs := #[.int .i64 a2_1, .int .i64 0, .int .i64 0]) ?_ 1 _ rfl; (with_reducible repeat (first | refine blk_drewN ?_ _ | refine blk_drew ?_ | refine blk_alloc ?_ _)); refine blk_put (cs := #[.int .i64 0, .int .i64 0, .int .i64 0]) ?_ 0 _ rfl; (with_reducible repeat (first | refine blk_drewN ?_ _ | refine blk_drew ?_ | refine blk_alloc ?_ _)); exact BK180.out) Try.underlying28 rfl (by kernel_rfl)) rfl ?_
                      exact ⟨by first | rfl | (simp [errW_none, errW_some] <;> rfl) | (simp [*, errW_none, errW_some] <;> rfl), by repeat (first | (with_reducible first | exact HB.out | apply below_alloc | apply pw_below_drewN | apply below_drew1 | refine below_set ?_ GE177.out | refine below_set ?_ GE178.out | refine below_set ?_ GE179.out | refine below_set ?_ GE180.out) | exact HB.out)⟩
                · replace c62 := Bool.eq_false_iff.mpr c62
                  subst c62
                  have H1 : (if (a2_1 == a1_0 && (a2_2 == a1_1)) = true then (some (a1_0, a1_1, a1_2, 0)) else (some (a2_1, a2_2, a3, 0))) = some (r1, r2, r3, r4) := by rw [if_neg (show ¬ (false = true) by decide)] at H; exact H
                  clear H
                  have H := H1
                  clear H1
                  by_cases c101 : (a2_1 == a1_0 && (a2_2 == a1_1)) = true
                  · rw [if_pos c101] at H
                    have c101b0 : (a2_1 == a1_0 && (a2_2 == a1_1)) = true := c101
                    (try (have c101b1 : decide (a2_1 = a1_0 && (a2_2 == a1_1)) = true := by simpa using c101))
                    (try (have c101b2 : (a2_1 == a1_0 && (a2_2 == a1_1)) = true := by simpa using c101))
                    clear c101
                    simp only [Option.some.injEq, Prod.mk.injEq] at H
                    obtain ⟨rfl, rfl, rfl, rfl⟩ := H
                    have hnb102 := NB178_177.out
                    have hnc102 := NB177_178.out
                    have hnb103 := NB178_179.out
                    have hnc103 := NB179_178.out
                    have hnb104 := NB178_180.out
                    have hnc104 := NB180_178.out
                    have hcz105_0 : wc.cell? ⟨gb178, 0, none⟩ = some (.int .i64 a1_0) := (blk_cell BK178.out 0).trans rfl
                    have hcz105_1 : wc.cell? ⟨gb178, 1, none⟩ = some (.int .i64 a1_1) := (blk_cell BK178.out 1).trans rfl
                    have hcz105_2 : wc.cell? ⟨gb178, 2, none⟩ = some (.int .i64 a1_2) := (blk_cell BK178.out 2).trans rfl
                    have hfz105_0 := blk_frozen BK178.out 0
                    have hfz105_1 := blk_frozen BK178.out 1
                    have hfz105_2 := blk_frozen BK178.out 2
                    have hnb106 := NB177_179.out
                    have hnc106 := NB179_177.out
                    have hnb107 := NB177_180.out
                    have hnc107 := NB180_177.out
                    have hcz108_0 : wc.cell? ⟨gb177, 0, none⟩ = some (.string a0_0) := (blk_cell BK177.out 0).trans rfl
                    have hcz108_1 : wc.cell? ⟨gb177, 1, none⟩ = some (.int .i64 a0_1) := (blk_cell BK177.out 1).trans rfl
                    have hcz108_2 : wc.cell? ⟨gb177, 2, none⟩ = some (.int .i64 a0_2) := (blk_cell BK177.out 2).trans rfl
                    have hcz108_3 : wc.cell? ⟨gb177, 3, none⟩ = some (.string a0_3) := (blk_cell BK177.out 3).trans rfl
                    have hcz108_4 : wc.cell? ⟨gb177, 4, none⟩ = some (.int .i64 a0_4) := (blk_cell BK177.out 4).trans rfl
                    have hcz108_5 : wc.cell? ⟨gb177, 5, none⟩ = some (.int .i64 a0_5) := (blk_cell BK177.out 5).trans rfl
                    have hcz108_6 : wc.cell? ⟨gb177, 6, none⟩ = some (.int .i64 a0_6) := (blk_cell BK177.out 6).trans rfl
                    have hcz108_7 : wc.cell? ⟨gb177, 7, none⟩ = some (.slice A0_7 l0_7.length c0_7) := (blk_cell BK177.out 7).trans rfl
                    have hcz108_8 : wc.cell? ⟨gb177, 8, none⟩ = some (.int .i64 a0_8) := (blk_cell BK177.out 8).trans rfl
                    have hcz108_9 : wc.cell? ⟨gb177, 9, none⟩ = some (.int .i64 a0_9) := (blk_cell BK177.out 9).trans rfl
                    have hcz108_10 : wc.cell? ⟨gb177, 10, none⟩ = some (.int .i64 a0_10) := (blk_cell BK177.out 10).trans rfl
                    have hcz108_11 : wc.cell? ⟨gb177, 11, none⟩ = some (.int .i64 a0_11) := (blk_cell BK177.out 11).trans rfl
                    have hfz108_0 := blk_frozen BK177.out 0
                    have hfz108_1 := blk_frozen BK177.out 1
                    have hfz108_2 := blk_frozen BK177.out 2
                    have hfz108_3 := blk_frozen BK177.out 3
                    have hfz108_4 := blk_frozen BK177.out 4
                    have hfz108_5 := blk_frozen BK177.out 5
                    have hfz108_6 := blk_frozen BK177.out 6
                    have hfz108_7 := blk_frozen BK177.out 7
                    have hfz108_8 := blk_frozen BK177.out 8
                    have hfz108_9 := blk_frozen BK177.out 9
                    have hfz108_10 := blk_frozen BK177.out 10
                    have hfz108_11 := blk_frozen BK177.out 11
                    go_wp2_with (first | ((with_reducible refine gate_callee (f := 23) rfl ?_); refine goesL_ (some 40) rfl rfl Try.func23 (by kernel_rfl) rfl #[.agg #[.string a0_0, .int .i64 a0_1, .int .i64 a0_2, .string a0_3, .int .i64 a0_4, .int .i64 a0_5, .int .i64 a0_6, .slice A0_7 l0_7.length c0_7, .int .i64 a0_8, .int .i64 a0_9, .int .i64 a0_10, .int .i64 a0_11], .agg #[.int .i64 a1_0, .int .i64 a1_1, .int .i64 a1_2], .int .i64 a3] rfl (by (try simp only [List.map_toArray, List.map_cons, List.map_nil]); first | done | rfl | (simp only [List.length_drop, List.length_take]; rfl)) ?_; (with_reducible refine (plenumref14_Held.calls kj37 a0_0 a0_1 a0_2 a0_3 a0_4 a0_5 a0_6 _ _ l0_7 a0_8 a0_9 a0_10 a0_11 a1_0 a1_1 a1_2 a3 false _ ?side1 ?side2 A61.out).mono ?_); (case side1 => repeat (first | exact (Kd.C_below HR0_7.out HB.out) | (with_reducible refine Kd.C_alloc ?_ _) | (with_reducible refine Kd.C_drewN ?_ _) | (with_reducible refine Kd.C_drew ?_))); (case side2 => exact HC0_7.out); rintro e w109 ⟨rfl, hb⟩; refine ⟨_, rfl, ?_⟩; have n0_ := Aside0.mk (blk_below (g := gb177) (o := .cells #[.string a0_0, .int .i64 a0_1, .int .i64 a0_2, .string a0_3, .int .i64 a0_4, .int .i64 a0_5, .int .i64 a0_6, .slice A0_7 l0_7.length c0_7, .int .i64 a0_8, .int .i64 a0_9, .int .i64 a0_10, .int .i64 a0_11] 26 (0, 0)) (by (with_reducible repeat (first | refine blk_drewN ?_ _ | refine blk_drew ?_ | refine blk_alloc ?_ _)); exact BK177.out) hb); have n1_ := Aside0.mk (blk_below (g := gb178) (o := .cells #[.int .i64 a1_0, .int .i64 a1_1, .int .i64 a1_2] 28 (0, 0)) (by (with_reducible repeat (first | refine blk_drewN ?_ _ | refine blk_drew ?_ | refine blk_alloc ?_ _)); exact BK178.out) hb); have n2_ := Aside0.mk (blk_below (g := gb179) (o := .cells #[.int .i64 a2_0, .int .i64 a2_1, .int .i64 a2_2] 30 (0, 0)) (by (with_reducible repeat (first | refine blk_drewN ?_ _ | refine blk_drew ?_ | refine blk_alloc ?_ _)); exact BK179.out) hb); have n3_ := Aside0.mk (blk_below (g := gb180) (o := .cells #[.int .i64 0, .int .i64 0, .int .i64 0] 28 (0, 0)) (by (with_reducible repeat (first | refine blk_drewN ?_ _ | refine blk_drew ?_ | refine blk_alloc ?_ _)); exact BK180.out) hb); have n4_ := Aside0.mk (below_step (by repeat (first | (with_reducible first | exact HB.out | apply below_alloc | apply pw_below_drewN | apply below_drew1 | refine below_set ?_ GE177.out | refine below_set ?_ GE178.out | refine below_set ?_ GE179.out | refine below_set ?_ GE180.out) | exact HB.out)) hb); clear BK177; clear BK178; clear BK179; clear BK180; clear HB; have BK177 := n0_; have BK178 := n1_; have BK179 := n2_; have BK180 := n3_; have HB := n4_; clear n0_ n1_ n2_ n3_ n4_; (try clear hb); (try clear hb2); (try clear hk); (try clear hi); have hnb110 := NB179_180.out; have hnc110 := NB180_179.out; have hcz111_0 : w109.cell? ⟨gb179, 0, none⟩ = some (.int .i64 a2_0) := (blk_cell BK179.out 0).trans rfl; have hcz111_1 : w109.cell? ⟨gb179, 1, none⟩ = some (.int .i64 a2_1) := (blk_cell BK179.out 1).trans rfl; have hcz111_2 : w109.cell? ⟨gb179, 2, none⟩ = some (.int .i64 a2_2) := (blk_cell BK179.out 2).trans rfl; have hfz111_0 := blk_frozen BK179.out 0; have hfz111_1 := blk_frozen BK179.out 1; have hfz111_2 := blk_frozen BK179.out 2; have hcz112_0 : w109.cell? ⟨gb178, 0, none⟩ = some (.int .i64 a1_0) := (blk_cell BK178.out 0).trans rfl; have hcz112_1 : w109.cell? ⟨gb178, 1, none⟩ = some (.int .i64 a1_1) := (blk_cell BK178.out 1).trans rfl; have hcz112_2 : w109.cell? ⟨gb178, 2, none⟩ = some (.int .i64 a1_2) := (blk_cell BK178.out 2).trans rfl; have hfz112_0 := blk_frozen BK178.out 0; have hfz112_1 := blk_frozen BK178.out 1; have hfz112_2 := blk_frozen BK178.out 2; have hcz113_0 : w109.cell? ⟨gb180, 0, none⟩ = some (.int .i64 0) := (blk_cell BK180.out 0).trans rfl; have hcz113_1 : w109.cell? ⟨gb180, 1, none⟩ = some (.int .i64 0) := (blk_cell BK180.out 1).trans rfl; have hcz113_2 : w109.cell? ⟨gb180, 2, none⟩ = some (.int .i64 0) := (blk_cell BK180.out 2).trans rfl; have hfz113_0 := blk_frozen BK180.out 0; have hfz113_1 := blk_frozen BK180.out 1; have hfz113_2 := blk_frozen BK180.out 2))
                    refine bodyPost_ret (results_ct rfl _ _ gb180 28 #[.int .i64 a1_0, .int .i64 a1_1, .int .i64 a1_2] (0, 0) _ rfl (by (with_reducible repeat (first | refine blk_drewN ?_ _ | refine blk_drew ?_ | refine blk_alloc ?_ _)); refine blk_put (cs := #[.int .i64 a1_0, .int .i64 a1_1, .int .i64 0]) ?_ 2 _ rfl; (with_reducible repeat (first | refine blk_drewN ?_ _ | refine blk_drew ?_ | refine blk_alloc ?_ _)); refine blk_put (cs := #[.int .i64 a1_0, .int .i64 0, .int .i64 0]) ?_ 1 _ rfl; (with_reducible repeat (first | refine blk_drewN ?_ _ | refine blk_drew ?_ | refine blk_alloc ?_ _)); refine blk_put (cs := #[.int .i64 0, .int .i64 0, .int .i64 0]) ?_ 0 _ rfl; (with_reducible repeat (first | refine blk_drewN ?_ _ | refine blk_drew ?_ | refine blk_alloc ?_ _)); exact BK180.out) Try.underlying28 rfl (by kernel_rfl)) rfl ?_
                    exact ⟨by first | rfl | (simp [errW_none, errW_some] <;> rfl) | (simp [*, errW_none, errW_some] <;> rfl), by repeat (first | (with_reducible first | exact HB.out | apply below_alloc | apply pw_below_drewN | apply below_drew1 | refine below_set ?_ GE177.out | refine below_set ?_ GE178.out | refine below_set ?_ GE179.out | refine below_set ?_ GE180.out) | exact HB.out)⟩
                  · rw [if_neg c101] at H
                    have c101b0 : (a2_1 == a1_0 && (a2_2 == a1_1)) = false := by simpa using c101
                    (try (have c101b1 : decide (a2_1 = a1_0 && (a2_2 == a1_1)) = false := by simpa using c101))
                    (try (have c101b2 : (a2_1 == a1_0 && (a2_2 == a1_1)) = false := by simpa using c101))
                    (try (have c101b3 : ¬ (a2_1 = a1_0 && (a2_2 == a1_1)) := by simpa using c101))
                    clear c101
                    simp only [Option.some.injEq, Prod.mk.injEq] at H
                    obtain ⟨rfl, rfl, rfl, rfl⟩ := H
                    have hnb114 := NB178_177.out
                    have hnc114 := NB177_178.out
                    have hnb115 := NB178_179.out
                    have hnc115 := NB179_178.out
                    have hnb116 := NB178_180.out
                    have hnc116 := NB180_178.out
                    have hcz117_0 : wc.cell? ⟨gb178, 0, none⟩ = some (.int .i64 a1_0) := (blk_cell BK178.out 0).trans rfl
                    have hcz117_1 : wc.cell? ⟨gb178, 1, none⟩ = some (.int .i64 a1_1) := (blk_cell BK178.out 1).trans rfl
                    have hcz117_2 : wc.cell? ⟨gb178, 2, none⟩ = some (.int .i64 a1_2) := (blk_cell BK178.out 2).trans rfl
                    have hfz117_0 := blk_frozen BK178.out 0
                    have hfz117_1 := blk_frozen BK178.out 1
                    have hfz117_2 := blk_frozen BK178.out 2
                    have hnb118 := NB177_179.out
                    have hnc118 := NB179_177.out
                    have hnb119 := NB177_180.out
                    have hnc119 := NB180_177.out
                    have hcz120_0 : wc.cell? ⟨gb177, 0, none⟩ = some (.string a0_0) := (blk_cell BK177.out 0).trans rfl
                    have hcz120_1 : wc.cell? ⟨gb177, 1, none⟩ = some (.int .i64 a0_1) := (blk_cell BK177.out 1).trans rfl
                    have hcz120_2 : wc.cell? ⟨gb177, 2, none⟩ = some (.int .i64 a0_2) := (blk_cell BK177.out 2).trans rfl
                    have hcz120_3 : wc.cell? ⟨gb177, 3, none⟩ = some (.string a0_3) := (blk_cell BK177.out 3).trans rfl
                    have hcz120_4 : wc.cell? ⟨gb177, 4, none⟩ = some (.int .i64 a0_4) := (blk_cell BK177.out 4).trans rfl
                    have hcz120_5 : wc.cell? ⟨gb177, 5, none⟩ = some (.int .i64 a0_5) := (blk_cell BK177.out 5).trans rfl
                    have hcz120_6 : wc.cell? ⟨gb177, 6, none⟩ = some (.int .i64 a0_6) := (blk_cell BK177.out 6).trans rfl
                    have hcz120_7 : wc.cell? ⟨gb177, 7, none⟩ = some (.slice A0_7 l0_7.length c0_7) := (blk_cell BK177.out 7).trans rfl
                    have hcz120_8 : wc.cell? ⟨gb177, 8, none⟩ = some (.int .i64 a0_8) := (blk_cell BK177.out 8).trans rfl
                    have hcz120_9 : wc.cell? ⟨gb177, 9, none⟩ = some (.int .i64 a0_9) := (blk_cell BK177.out 9).trans rfl
                    have hcz120_10 : wc.cell? ⟨gb177, 10, none⟩ = some (.int .i64 a0_10) := (blk_cell BK177.out 10).trans rfl
                    have hcz120_11 : wc.cell? ⟨gb177, 11, none⟩ = some (.int .i64 a0_11) := (blk_cell BK177.out 11).trans rfl
                    have hfz120_0 := blk_frozen BK177.out 0
                    have hfz120_1 := blk_frozen BK177.out 1
                    have hfz120_2 := blk_frozen BK177.out 2
                    have hfz120_3 := blk_frozen BK177.out 3
                    have hfz120_4 := blk_frozen BK177.out 4
                    have hfz120_5 := blk_frozen BK177.out 5
                    have hfz120_6 := blk_frozen BK177.out 6
                    have hfz120_7 := blk_frozen BK177.out 7
                    have hfz120_8 := blk_frozen BK177.out 8
                    have hfz120_9 := blk_frozen BK177.out 9
                    have hfz120_10 := blk_frozen BK177.out 10
                    have hfz120_11 := blk_frozen BK177.out 11
                    go_wp2_with (first | ((with_reducible refine gate_callee (f := 23) rfl ?_); refine goesL_ (some 40) rfl rfl Try.func23 (by kernel_rfl) rfl #[.agg #[.string a0_0, .int .i64 a0_1, .int .i64 a0_2, .string a0_3, .int .i64 a0_4, .int .i64 a0_5, .int .i64 a0_6, .slice A0_7 l0_7.length c0_7, .int .i64 a0_8, .int .i64 a0_9, .int .i64 a0_10, .int .i64 a0_11], .agg #[.int .i64 a1_0, .int .i64 a1_1, .int .i64 a1_2], .int .i64 a3] rfl (by (try simp only [List.map_toArray, List.map_cons, List.map_nil]); first | done | rfl | (simp only [List.length_drop, List.length_take]; rfl)) ?_; (with_reducible refine (plenumref14_Held.calls kj37 a0_0 a0_1 a0_2 a0_3 a0_4 a0_5 a0_6 _ _ l0_7 a0_8 a0_9 a0_10 a0_11 a1_0 a1_1 a1_2 a3 false _ ?side1 ?side2 A61.out).mono ?_); (case side1 => repeat (first | exact (Kd.C_below HR0_7.out HB.out) | (with_reducible refine Kd.C_alloc ?_ _) | (with_reducible refine Kd.C_drewN ?_ _) | (with_reducible refine Kd.C_drew ?_))); (case side2 => exact HC0_7.out); rintro e w121 ⟨rfl, hb⟩; refine ⟨_, rfl, ?_⟩; have n0_ := Aside0.mk (blk_below (g := gb177) (o := .cells #[.string a0_0, .int .i64 a0_1, .int .i64 a0_2, .string a0_3, .int .i64 a0_4, .int .i64 a0_5, .int .i64 a0_6, .slice A0_7 l0_7.length c0_7, .int .i64 a0_8, .int .i64 a0_9, .int .i64 a0_10, .int .i64 a0_11] 26 (0, 0)) (by (with_reducible repeat (first | refine blk_drewN ?_ _ | refine blk_drew ?_ | refine blk_alloc ?_ _)); exact BK177.out) hb); have n1_ := Aside0.mk (blk_below (g := gb178) (o := .cells #[.int .i64 a1_0, .int .i64 a1_1, .int .i64 a1_2] 28 (0, 0)) (by (with_reducible repeat (first | refine blk_drewN ?_ _ | refine blk_drew ?_ | refine blk_alloc ?_ _)); exact BK178.out) hb); have n2_ := Aside0.mk (blk_below (g := gb179) (o := .cells #[.int .i64 a2_0, .int .i64 a2_1, .int .i64 a2_2] 30 (0, 0)) (by (with_reducible repeat (first | refine blk_drewN ?_ _ | refine blk_drew ?_ | refine blk_alloc ?_ _)); exact BK179.out) hb); have n3_ := Aside0.mk (blk_below (g := gb180) (o := .cells #[.int .i64 0, .int .i64 0, .int .i64 0] 28 (0, 0)) (by (with_reducible repeat (first | refine blk_drewN ?_ _ | refine blk_drew ?_ | refine blk_alloc ?_ _)); exact BK180.out) hb); have n4_ := Aside0.mk (below_step (by repeat (first | (with_reducible first | exact HB.out | apply below_alloc | apply pw_below_drewN | apply below_drew1 | refine below_set ?_ GE177.out | refine below_set ?_ GE178.out | refine below_set ?_ GE179.out | refine below_set ?_ GE180.out) | exact HB.out)) hb); clear BK177; clear BK178; clear BK179; clear BK180; clear HB; have BK177 := n0_; have BK178 := n1_; have BK179 := n2_; have BK180 := n3_; have HB := n4_; clear n0_ n1_ n2_ n3_ n4_; (try clear hb); (try clear hb2); (try clear hk); (try clear hi); have hnb122 := NB179_180.out; have hnc122 := NB180_179.out; have hcz123_0 : w121.cell? ⟨gb179, 0, none⟩ = some (.int .i64 a2_0) := (blk_cell BK179.out 0).trans rfl; have hcz123_1 : w121.cell? ⟨gb179, 1, none⟩ = some (.int .i64 a2_1) := (blk_cell BK179.out 1).trans rfl; have hcz123_2 : w121.cell? ⟨gb179, 2, none⟩ = some (.int .i64 a2_2) := (blk_cell BK179.out 2).trans rfl; have hfz123_0 := blk_frozen BK179.out 0; have hfz123_1 := blk_frozen BK179.out 1; have hfz123_2 := blk_frozen BK179.out 2; have hcz124_0 : w121.cell? ⟨gb178, 0, none⟩ = some (.int .i64 a1_0) := (blk_cell BK178.out 0).trans rfl; have hcz124_1 : w121.cell? ⟨gb178, 1, none⟩ = some (.int .i64 a1_1) := (blk_cell BK178.out 1).trans rfl; have hcz124_2 : w121.cell? ⟨gb178, 2, none⟩ = some (.int .i64 a1_2) := (blk_cell BK178.out 2).trans rfl; have hfz124_0 := blk_frozen BK178.out 0; have hfz124_1 := blk_frozen BK178.out 1; have hfz124_2 := blk_frozen BK178.out 2; have hcz125_0 : w121.cell? ⟨gb180, 0, none⟩ = some (.int .i64 0) := (blk_cell BK180.out 0).trans rfl; have hcz125_1 : w121.cell? ⟨gb180, 1, none⟩ = some (.int .i64 0) := (blk_cell BK180.out 1).trans rfl; have hcz125_2 : w121.cell? ⟨gb180, 2, none⟩ = some (.int .i64 0) := (blk_cell BK180.out 2).trans rfl; have hfz125_0 := blk_frozen BK180.out 0; have hfz125_1 := blk_frozen BK180.out 1; have hfz125_2 := blk_frozen BK180.out 2))
                    refine bodyPost_ret (results_ct rfl _ _ gb180 28 #[.int .i64 a2_1, .int .i64 a2_2, .int .i64 a3] (0, 0) _ rfl (by (with_reducible repeat (first | refine blk_drewN ?_ _ | refine blk_drew ?_ | refine blk_alloc ?_ _)); refine blk_put (cs := #[.int .i64 a2_1, .int .i64 a2_2, .int .i64 0]) ?_ 2 _ rfl; (with_reducible repeat (first | refine blk_drewN ?_ _ | refine blk_drew ?_ | refine blk_alloc ?_ _)); refine blk_put (cs := #[.int .i64 a2_1, .int .i64 0, .int .i64 0]) ?_ 1 _ rfl; (with_reducible repeat (first | refine blk_drewN ?_ _ | refine blk_drew ?_ | refine blk_alloc ?_ _)); refine blk_put (cs := #[.int .i64 0, .int .i64 0, .int .i64 0]) ?_ 0 _ rfl; (with_reducible repeat (first | refine blk_drewN ?_ _ | refine blk_drew ?_ | refine blk_alloc ?_ _)); exact BK180.out) Try.underlying28 rfl (by kernel_rfl)) rfl ?_
                    exact ⟨by first | rfl | (simp [errW_none, errW_some] <;> rfl) | (simp [*, errW_none, errW_some] <;> rfl), by repeat (first | (with_reducible first | exact HB.out | apply below_alloc | apply pw_below_drewN | apply below_drew1 | refine below_set ?_ GE177.out | refine below_set ?_ GE178.out | refine below_set ?_ GE179.out | refine below_set ?_ GE180.out) | exact HB.out)⟩

end Go.Proofs.Ytjllpbllmeegiaa.Q
