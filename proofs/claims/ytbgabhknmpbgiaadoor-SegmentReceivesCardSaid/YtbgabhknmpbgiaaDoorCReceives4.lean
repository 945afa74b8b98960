/- SegmentReceivesCard: one part of the proof that the law answers true for every input, and that its arguments read afterwards as before. No condition. -/
import Derived.Test.YtbgabhknmpbgiaaDoorCReceives3
import Derived.Outline
import Derived.Deep.OwnRows
section
namespace Go.Proofs.YtbgabhknmpbgiaaDoor.S
open Go.RowKit Go.Proofs.YtbgabhknmpbgiaaDoorW.PrintWords Go.Proofs.YtbgabhknmpbgiaaDoorW.PrintLast Go.Proofs.YtbgabhknmpbgiaaDoorW.PrintMore
attribute [local go_sem] max2_int min2_int max_two min_two max_three min_three max_four min_four
set_option linter.unusedVariables false
set_option linter.unusedSimpArgs false
mutual
def plenumref49_Receiver_Handle.j0 : Nat → Int → Bool → Int → Int → Int → Int → ByteArray → Int → Int → Int → Int → Bool → Int → ByteArray → Option ((List (S27)) × Int × Int × Int × Int × ByteArray × Int)
  | 0, _, _, _, _, _, _, _, _, _, _, _, _, _, _ => none
  | k + 1, x2, x20, x1000, x1001, x1002, x1003, x1004, x1005, x360000, x360001, x360002, x360003, x360004, x360005 => if x20 = true then (some (([] : List (S27)), x1000, x1001, x1002, x1003, x1004, x1005)) else (if x360000 = 3 then (plenumref49_Receiver_Handle.j1 k x2 (x1002 == 0) x1000 x1001 x1002 x1003 x1004 x1005 x360000 x360001 x360002 x360003 x360004 x360005) else (plenumref49_Receiver_Handle.j1 k x2 false x1000 x1001 x1002 x1003 x1004 x1005 x360000 x360001 x360002 x360003 x360004 x360005))
def plenumref49_Receiver_Handle.j1 : Nat → Int → Bool → Int → Int → Int → Int → ByteArray → Int → Int → Int → Int → Bool → Int → ByteArray → Option ((List (S27)) × Int × Int × Int × Int × ByteArray × Int)
  | 0, _, _, _, _, _, _, _, _, _, _, _, _, _, _ => none
  | k + 1, x2, x30, x1000, x1001, x1002, x1003, x1004, x1005, x360000, x360001, x360002, x360003, x360004, x360005 => if x30 = true then (plenumref49_Receiver_Handle.j2 k x2 x1000 x1001 2 x1003 x1004 x1005 x360000 x360001 x360002 x360003 x360004 x360005) else (plenumref49_Receiver_Handle.j2 k x2 x1000 x1001 x1002 x1003 x1004 x1005 x360000 x360001 x360002 x360003 x360004 x360005)
def plenumref49_Receiver_Handle.j2 : Nat → Int → Int → Int → Int → Int → ByteArray → Int → Int → Int → Int → Bool → Int → ByteArray → Option ((List (S27)) × Int × Int × Int × Int × ByteArray × Int)
  | 0, _, _, _, _, _, _, _, _, _, _, _, _, _ => none
  | k + 1, x2, x1000, x1001, x1002, x1003, x1004, x1005, x360000, x360001, x360002, x360003, x360004, x360005 => if x360000 = 1 then (if x1002 = 0 then (if x360002 = x1003 then (if x1004.size + x360005.size ≤ 9223372036854775807 then (if x360003 = true then (some ((([(⟨2, x1000, wrap64 ((wrap64 (x1003 + 1)) - 1), false, 0, (⟨#[]⟩ : ByteArray)⟩ : S27)] : List (S27))), x1000, x1001, x1002, wrap64 (x1003 + 1), x1004 ++ x360005, wrap64 (x2 + x1001))) else (some ((([(⟨2, x1000, wrap64 ((wrap64 (x1003 + 1)) - 1), false, 0, (⟨#[]⟩ : ByteArray)⟩ : S27)] : List (S27))), x1000, x1001, 1, wrap64 (x1003 + 1), x1004 ++ x360005, wrap64 (x2 + x1001)))) else (none)) else (some ((([(⟨2, x1000, wrap64 (x1003 - 1), false, 0, (⟨#[]⟩ : ByteArray)⟩ : S27)] : List (S27))), x1000, x1001, x1002, x1003, x1004, wrap64 (x2 + x1001)))) else (some ((([(⟨2, x1000, wrap64 (x1003 - 1), false, 0, (⟨#[]⟩ : ByteArray)⟩ : S27)] : List (S27))), x1000, x1001, x1002, x1003, x1004, x1005))) else (some (([] : List (S27)), x1000, x1001, x1002, x1003, x1004, x1005))
end
def plenumref49_Receiver_Handle.f (k : Nat) (s0_0 : Int) (s0_1 : Int) (s0_2 : Int) (s0_3 : Int) (s0_4 : ByteArray) (s0_5 : Int) (a1_0 : Int) (a1_1 : Int) (a1_2 : Int) (a1_3 : Bool) (a1_4 : Int) (a1_5 : ByteArray) (a2 : Int) : Option ((List (S27)) × Int × Int × Int × Int × ByteArray × Int) := if s0_2 = 2 then (plenumref49_Receiver_Handle.j0 k a2 true s0_0 s0_1 s0_2 s0_3 s0_4 s0_5 a1_0 a1_1 a1_2 a1_3 a1_4 a1_5) else (plenumref49_Receiver_Handle.j0 k a2 (a1_1 != s0_0) s0_0 s0_1 s0_2 s0_3 s0_4 s0_5 a1_0 a1_1 a1_2 a1_3 a1_4 a1_5)
def plenumref49_Receiver_Handle.T1 : Bool × List (List Nat × List Nat) := (true, [([], []), ([0], [0]), ([1], [1]), ([2], [2]), ([3], [3]), ([4], [4]), ([5], [5]), ([6, 5], [5, 6]), ([5], [5]), ([8, 5], [5, 8]), ([9, 5], [5, 9]), ([10, 5], [5, 10]), ([7, 11, 5], [5, 7, 11]), ([5, 12], [5, 12])])
def plenumref49_Receiver_Handle.B1 : List Nat := [0, 1, 3, 7, 15, 31, 63, 127, 63, 319, 831, 1855, 4095, 8191]
theorem plenumref49_Receiver_Handle.tab1 : rtab .any (opsOf Tryd.f35 1) = plenumref49_Receiver_Handle.T1 := by kernel_rfl
theorem plenumref49_Receiver_Handle.bits1 : waitsOk plenumref49_Receiver_Handle.T1.2 plenumref49_Receiver_Handle.B1 = true := by kernel_rfl
def plenumref49_Receiver_Handle.T10 : Bool × List (List Nat × List Nat) := (true, [([], []), ([0], [0]), ([1], [1]), ([2], [2]), ([], []), ([4], [4]), ([3, 5], [3, 5]), ([0, 0, 1, 2, 3, 4, 5, 6], [0]), ([7, 0, 1, 2, 3, 4, 5, 6], [7]), ([8, 6, 0, 1, 2, 3, 4, 5, 6], [6, 8])])
def plenumref49_Receiver_Handle.B10 : List Nat := [0, 1, 3, 7, 0, 16, 63, 127, 255, 511]
theorem plenumref49_Receiver_Handle.tab10 : rtab .any (opsOf Tryd.f35 10) = plenumref49_Receiver_Handle.T10 := by kernel_rfl
theorem plenumref49_Receiver_Handle.bits10 : waitsOk plenumref49_Receiver_Handle.T10.2 plenumref49_Receiver_Handle.B10 = true := by kernel_rfl
def plenumref49_Receiver_Handle.T14 : Bool × List (List Nat × List Nat) := (true, [([], []), ([0], [0]), ([1], [1]), ([2], [2]), ([], []), ([4], [4]), ([5], [5]), ([6], [6]), ([7], [7]), ([3, 8], [3, 8]), ([9], [9]), ([10, 0, 1, 2, 3, 4, 5, 6, 7, 8, 9, 10], [10])])
def plenumref49_Receiver_Handle.B14 : List Nat := [0, 1, 3, 7, 0, 16, 48, 112, 240, 511, 1023, 2047]
theorem plenumref49_Receiver_Handle.tab14 : rtab .any (opsOf Tryd.f35 14) = plenumref49_Receiver_Handle.T14 := by kernel_rfl
theorem plenumref49_Receiver_Handle.bits14 : waitsOk plenumref49_Receiver_Handle.T14.2 plenumref49_Receiver_Handle.B14 = true := by kernel_rfl
set_option maxHeartbeats 8000000 in
set_option maxRecDepth 100000 in
theorem plenumref49_Receiver_Handle.calls (k : Nat) (g : Nat) (s0_0 : Int) (s0_1 : Int) (s0_2 : Int) (s0_3 : Int) (s0_4 : ByteArray) (s0_5 : Int) (a1_0 : Int) (a1_1 : Int) (a1_2 : Int) (a1_3 : Bool) (a1_4 : Int) (a1_5 : ByteArray) (a2 : Int) (r1 : List (S27)) (r2 : Int) (r3 : Int) (r4 : Int) (r5 : Int) (r6 : ByteArray) (r7 : Int) (w0 w : World) (hG : Glob w0) (hI : IsS73 w0 w g s0_0 s0_1 s0_2 s0_3 s0_4 s0_5) (hB : Below w0.heap.size w0 w) (h : plenumref49_Receiver_Handle.f k s0_0 s0_1 s0_2 s0_3 s0_4 s0_5 a1_0 a1_1 a1_2 a1_3 a1_4 a1_5 a2 = some (r1, r2, r3, r4, r5, r6, r7)) :
    Calls Tryd.prog 35 #[.pointer (some ⟨g, 0, none⟩), .agg #[.int .i64 a1_0, .int .i64 a1_1, .int .i64 a1_2, .bool a1_3, .int .i64 a1_4, .string a1_5], .int .i64 a2] w fun e w' => ∃ v0_ : Value, e = .returned (v0_) ∧ Kd.R k27 27 w' w.heap.size (fun _ => True) v0_ r1 ∧ IsS73 w0 w' g r2 r3 r4 r5 r6 r7 ∧ Below w0.heap.size w0 w' ∧ KeepBut w w' g none := by
  have hu27 := Tryd.underlying27
  have HG := Aside0.mk hG
  clear hG
  have HI0 := Aside0.mk hI
  have HK := Aside0.mk (KeepBut.refl w g none)
  have HL := Aside0.mk hB.size
  clear hI
  have HW0 := Aside0.mk hB.size
  have HB := Aside0.mk hB
  clear hB
  have H : (if s0_2 = 2 then (plenumref49_Receiver_Handle.j0 k a2 true s0_0 s0_1 s0_2 s0_3 s0_4 s0_5 a1_0 a1_1 a1_2 a1_3 a1_4 a1_5) else (plenumref49_Receiver_Handle.j0 k a2 (a1_1 != s0_0) s0_0 s0_1 s0_2 s0_3 s0_4 s0_5 a1_0 a1_1 a1_2 a1_3 a1_4 a1_5)) = some (r1, r2, r3, r4, r5, r6, r7) := h
  clear h
  have HC4 := Aside0.mk H
  clear H
  go_enter Tryd.func35, Tryd.ntmps35
  go_upto_region 1 with (first | ((with_reducible refine gate_dst (N := 4) rfl ?_); refine box_event ?hg (N := 4) ?hd (cs := #[.int .i64 a1_0, .int .i64 a1_1, .int .i64 a1_2, .bool a1_3, .int .i64 a1_4, .string a1_5]) (t := 27) ?hr ?_; (case hd => rfl); (case hg => rfl); (case hr => first | (go_simp; done) | (go_simp; rfl)); intro gb359 hg w5 hbox hb; have n0_ := Aside0.mk (IsS73.below (by repeat (first | (with_reducible first | exact HI0.out | apply IsS73.alloc | apply IsS73.drewN | apply IsS73.drew | apply IsS73.set_0 | apply IsS73.set_1 | apply IsS73.set_2 | apply IsS73.set_3 | apply IsS73.set_4 | apply IsS73.set_5) | exact HI0.out)) hb); have n1_ := Aside0.mk (KeepBut.trans (by repeat (first | (with_reducible first | exact HK.out | apply KeepBut.set_ | apply keep_drewN | apply keep_drew | apply keep_alloc) | exact HK.out)) (KeepBut.of_below hb g none) (.inl rfl)); have n2_ := Aside0.mk (below_step (by repeat (first | (with_reducible first | exact HB.out | apply below_alloc | apply pw_below_drewN | apply below_drew1 | refine below_set ?_ (IsS73.ge HI0.out)) | exact HB.out)) hb); have n3_ := Aside0.mk (hbox); have n4_ := Aside0.mk ((by rw [hg]; exact (keep_size (w := w) (g := g) (row := none) (by repeat (first | (with_reducible first | exact HK.out | apply KeepBut.set_ | apply keep_drewN | apply keep_drew | apply keep_alloc) | exact HK.out))) : w.heap.size ≤ gb359)); have n5_ := Aside0.mk ((Nat.le_trans HW0.out (by rw [hg]; exact (keep_size (w := w) (g := g) (row := none) (by repeat (first | (with_reducible first | exact HK.out | apply KeepBut.set_ | apply keep_drewN | apply keep_drew | apply keep_alloc) | exact HK.out))) : w.heap.size ≤ gb359) : w0.heap.size ≤ gb359)); have n6_ := Aside0.mk ((by rw [hg]; exact Nat.ne_of_lt (IsS73.lt (show IsS73 w0 _ g s0_0 s0_1 s0_2 s0_3 s0_4 s0_5 from by repeat (first | (with_reducible first | exact HI0.out | apply IsS73.alloc | apply IsS73.drewN | apply IsS73.drew | apply IsS73.set_0 | apply IsS73.set_1 | apply IsS73.set_2 | apply IsS73.set_3 | apply IsS73.set_4 | apply IsS73.set_5) | exact HI0.out))) : g ≠ gb359)); have n7_ := Aside0.mk ((by rw [hg]; exact Nat.ne_of_gt (IsS73.lt (show IsS73 w0 _ g s0_0 s0_1 s0_2 s0_3 s0_4 s0_5 from by repeat (first | (with_reducible first | exact HI0.out | apply IsS73.alloc | apply IsS73.drewN | apply IsS73.drew | apply IsS73.set_0 | apply IsS73.set_1 | apply IsS73.set_2 | apply IsS73.set_3 | apply IsS73.set_4 | apply IsS73.set_5) | exact HI0.out))) : gb359 ≠ g)); clear HI0; clear HK; clear HB; have HI0 := n0_; have HK := n1_; have HB := n2_; have BK359 := n3_; have GW359 := n4_; have GE359 := n5_; have NB0_359 := n6_; have NB359_0 := n7_; clear n0_ n1_ n2_ n3_ n4_ n5_ n6_ n7_; clear hb hbox hg))
  (try simp only [Act.put, List.setIfInBounds_toArray, List.set_cons_zero, List.set_cons_succ])
  go_cut [20] (fun v20 wc => ∃ (kq : Nat) (x20_3 : Bool), v20 = .bool x20_3 ∧ Aside0 (plenumref49_Receiver_Handle.j0 kq a2 x20_3 s0_0 s0_1 s0_2 s0_3 s0_4 s0_5 a1_0 a1_1 a1_2 a1_3 a1_4 a1_5 = some (r1, r2, r3, r4, r5, r6, r7)) ∧ Aside0 (kq ≤ k) ∧ Aside0 (wc.heap[gb359]? = some (.cells #[.int .i64 a1_0, .int .i64 a1_1, .int .i64 a1_2, .bool a1_3, .int .i64 a1_4, .string a1_5] 27 (0, 0))) ∧ Aside0 (IsS73 w0 wc g s0_0 s0_1 s0_2 s0_3 s0_4 s0_5) ∧ Aside0 (KeepBut w wc g none) ∧ Aside0 (Below w0.heap.size w0 wc))
  case first =>
    have H := HC4.out
    clear HC4
    by_cases c6 : s0_2 = 2
    · rw [if_pos c6] at H
      have c6b0 : (s0_2 == 2) = true := beq_iff_eq.mpr c6
      have c6b1 : (s0_2 != 2) = false := bne_eq_false_iff_eq.mpr c6
      clear c6
      (first | rw [c6b0] | (simp only [i64_w, i32_w]; rw [c6b0]) | skip)
      have H' := Aside0.mk H
      clear H
      try go_wp2
      have n0_ := Aside0.mk (blk_drew BK359.out)
      have n1_ := Aside0.mk (IsS73.drew HI0.out)
      have n2_ := Aside0.mk (keep_drew HK.out)
      have n3_ := Aside0.mk (below_drew1 HB.out)
      clear BK359
      clear HI0
      clear HK
      clear HB
      have BK359 := n0_
      have HI0 := n1_
      have HK := n2_
      have HB := n3_
      clear n0_ n1_ n2_ n3_
      refine start_ (n := 14) (S := fun w' => w'.cell? ⟨g, 0, none⟩ = some (.int .i64 s0_0) ∧ w'.cell? ⟨g, 1, none⟩ = some (.int .i64 s0_1) ∧ w'.cell? ⟨g, 2, none⟩ = some (.int .i64 s0_2) ∧ w'.cell? ⟨g, 3, none⟩ = some (.int .i64 s0_3) ∧ w'.cell? ⟨g, 4, none⟩ = some (.string s0_4) ∧ w'.cell? ⟨g, 5, none⟩ = some (.int .i64 s0_5)) (ds := []) #[false, false, false, false, false, false, false, false, false, false, false, false, false, false] (by kernel_rfl) rfl rfl ⟨(blk_cell (Aside0.mk HI0.out.1).out 0).trans rfl, (blk_cell (Aside0.mk HI0.out.1).out 1).trans rfl, (blk_cell (Aside0.mk HI0.out.1).out 2).trans rfl, (blk_cell (Aside0.mk HI0.out.1).out 3).trans rfl, (blk_cell (Aside0.mk HI0.out.1).out 4).trans rfl, (blk_cell (Aside0.mk HI0.out.1).out 5).trans rfl⟩ (fun hHeld => ?_); refine with_tabW plenumref49_Receiver_Handle.tab1 plenumref49_Receiver_Handle.bits1 (fun HT_ HW_ => ?_)
      generalize w5.drew = w7 at BK359 HI0 HK HB hHeld ⊢
      refine pure_ (i := 0) (N := some 7) (v := ?_) (a' := ?_) #[true, false, false, false, false, false, false, false, false, false, false, false, false, false] rfl rfl (any_of HT_.out (by kernel_rfl)) (fun _ _ _ h => h) (Or.inl ⟨by rfl, ?_⟩) ?_ ?_
      rotate_left
      · intro w'
        go_simp
        with_reducible rfl
      rotate_left
      · simp only [Act.put, List.setIfInBounds_toArray, List.set_cons_zero, List.set_cons_succ, i64_w, i32_w]
        rfl
      refine pure_ (i := 1) (N := some 8) (v := ?_) (a' := ?_) #[true, true, false, false, false, false, false, false, false, false, false, false, false, false] rfl rfl (any_of HT_.out (by kernel_rfl)) (fun _ _ _ h => h) (Or.inl ⟨by rfl, ?_⟩) ?_ ?_
      rotate_left
      · intro w'
        go_simp
        with_reducible rfl
      rotate_left
      · simp only [Act.put, List.setIfInBounds_toArray, List.set_cons_zero, List.set_cons_succ, i64_w, i32_w]
        rfl
      refine pure_ (i := 2) (N := some 9) (v := ?_) (a' := ?_) #[true, true, true, false, false, false, false, false, false, false, false, false, false, false] rfl rfl (any_of HT_.out (by kernel_rfl)) (fun _ _ _ h => h) (Or.inl ⟨by rfl, ?_⟩) ?_ ?_
      rotate_left
      · intro w'
        go_simp
        with_reducible rfl
      rotate_left
      · simp only [Act.put, List.setIfInBounds_toArray, List.set_cons_zero, List.set_cons_succ, i64_w, i32_w]
        rfl
      refine take_ (i := 3) (N := some 10) (v := ?_) (a' := ?_) #[true, true, true, true, false, false, false, false, false, false, false, false, false, false] rfl rfl (take_ofW HT_.out HW_.out (by kernel_rfl)) (fun _ _ _ h => h) (Or.inl ⟨by rfl, ?_⟩) hHeld ?_ ?_
      rotate_left
      · rintro w' ⟨s0, s1, s2, s3, s4, s5⟩
        go_simp
        with_reducible rfl
      rotate_left
      · simp only [Act.put, List.setIfInBounds_toArray, List.set_cons_zero, List.set_cons_succ, i64_w, i32_w]
        rfl
      refine pure_ (i := 4) (N := some 11) (v := ?_) (a' := ?_) #[true, true, true, true, true, false, false, false, false, false, false, false, false, false] rfl rfl (any_of HT_.out (by kernel_rfl)) (fun _ _ _ h => h) (Or.inl ⟨by rfl, ?_⟩) ?_ ?_
      rotate_left
      · intro w'
        go_simp
        with_reducible rfl
      rotate_left
      · simp only [Act.put, List.setIfInBounds_toArray, List.set_cons_zero, List.set_cons_succ, i64_w, i32_w]
        rfl
      refine pure_ (i := 5) (N := some 12) (v := ?_) (a' := ?_) #[true, true, true, true, true, true, false, false, false, false, false, false, false, false] rfl rfl (any_of HT_.out (by kernel_rfl)) (fun _ _ _ h => h) (Or.inl ⟨by rfl, ?_⟩) ?_ ?_
      rotate_left
      · intro w'
        go_simp
        with_reducible rfl
      rotate_left
      · simp only [Act.put, List.setIfInBounds_toArray, List.set_cons_zero, List.set_cons_succ, i64_w, i32_w]
        rfl
      refine pure_ (i := 6) (N := some 13) (v := undef) (a' := ?_) #[true, true, true, true, true, true, true, false, false, false, false, false, false, false] rfl rfl (any_of HT_.out (by kernel_rfl)) (fun _ _ _ h => h) (Or.inr ⟨by rfl, rfl⟩) ?_ ?_
      rotate_left
      · simp only [Act.put, List.setIfInBounds_toArray, List.set_cons_zero, List.set_cons_succ, i64_w, i32_w]
        rfl
      refine pure_ (i := 7) (N := some 14) (v := undef) (a' := ?_) #[true, true, true, true, true, true, true, true, false, false, false, false, false, false] rfl rfl (any_of HT_.out (by kernel_rfl)) (fun _ _ _ h => h) (Or.inr ⟨by rfl, rfl⟩) ?_ ?_
      rotate_left
      · simp only [Act.put, List.setIfInBounds_toArray, List.set_cons_zero, List.set_cons_succ, i64_w, i32_w]
        rfl
      refine pure_ (i := 8) (N := some 15) (v := undef) (a' := ?_) #[true, true, true, true, true, true, true, true, true, false, false, false, false, false] rfl rfl (any_of HT_.out (by kernel_rfl)) (fun _ _ _ h => h) (Or.inr ⟨by rfl, rfl⟩) ?_ ?_
      rotate_left
      · simp only [Act.put, List.setIfInBounds_toArray, List.set_cons_zero, List.set_cons_succ, i64_w, i32_w]
        rfl
      refine pure_ (i := 9) (N := some 16) (v := undef) (a' := ?_) #[true, true, true, true, true, true, true, true, true, true, false, false, false, false] rfl rfl (any_of HT_.out (by kernel_rfl)) (fun _ _ _ h => h) (Or.inr ⟨by rfl, rfl⟩) ?_ ?_
      rotate_left
      · simp only [Act.put, List.setIfInBounds_toArray, List.set_cons_zero, List.set_cons_succ, i64_w, i32_w]
        rfl
      refine pure_ (i := 10) (N := some 17) (v := undef) (a' := ?_) #[true, true, true, true, true, true, true, true, true, true, true, false, false, false] rfl rfl (any_of HT_.out (by kernel_rfl)) (fun _ _ _ h => h) (Or.inr ⟨by rfl, rfl⟩) ?_ ?_
      rotate_left
      · simp only [Act.put, List.setIfInBounds_toArray, List.set_cons_zero, List.set_cons_succ, i64_w, i32_w]
        rfl
      refine pure_ (i := 11) (N := some 18) (v := undef) (a' := ?_) #[true, true, true, true, true, true, true, true, true, true, true, true, false, false] rfl rfl (any_of HT_.out (by kernel_rfl)) (fun _ _ _ h => h) (Or.inr ⟨by rfl, rfl⟩) ?_ ?_
      rotate_left
      · simp only [Act.put, List.setIfInBounds_toArray, List.set_cons_zero, List.set_cons_succ, i64_w, i32_w]
        rfl
      refine pure_ (i := 12) (N := some 19) (v := undef) (a' := ?_) #[true, true, true, true, true, true, true, true, true, true, true, true, true, false] rfl rfl (any_of HT_.out (by kernel_rfl)) (fun _ _ _ h => h) (Or.inr ⟨by rfl, rfl⟩) ?_ ?_
      rotate_left
      · simp only [Act.put, List.setIfInBounds_toArray, List.set_cons_zero, List.set_cons_succ, i64_w, i32_w]
        rfl
      refine pure_ (i := 13) (N := some 20) (v := ?_) (a' := ?_) #[true, true, true, true, true, true, true, true, true, true, true, true, true, true] rfl rfl (any_of HT_.out (by kernel_rfl)) (fun _ _ _ h => h) (Or.inl ⟨by rfl, ?_⟩) ?_ ?_
      rotate_left
      · intro w'
        go_simp
        with_reducible rfl
      rotate_left
      · simp only [Act.put, List.setIfInBounds_toArray, List.set_cons_zero, List.set_cons_succ, i64_w, i32_w]
        rfl
      refine done_ (done_of HT_.out (by kernel_rfl)) ?_
      try go_wp2
      go_meet
      case rel => exact ⟨_, (true), (by first | rfl | (simp; done) | (simp [*]; done)), H', ⟨by first | omega | exact Nat.le_refl _⟩, ⟨by (with_reducible repeat (first | refine blk_drewN ?_ _ | refine blk_drew ?_ | refine blk_alloc ?_ _)); exact BK359.out⟩, ⟨by repeat (first | (with_reducible first | exact HI0.out | apply IsS73.alloc | apply IsS73.drewN | apply IsS73.drew | apply IsS73.set_0 | apply IsS73.set_1 | apply IsS73.set_2 | apply IsS73.set_3 | apply IsS73.set_4 | apply IsS73.set_5 | refine IsS73.far ?_ NB0_359.out _) | exact HI0.out)⟩, ⟨by repeat (first | (with_reducible first | exact HK.out | apply KeepBut.set_ | apply keep_drewN | apply keep_drew | apply keep_alloc | refine keep_far ?_ GW359.out _) | exact HK.out)⟩, ⟨by repeat (first | (with_reducible first | exact HB.out | apply below_alloc | apply pw_below_drewN | apply below_drew1 | refine below_set ?_ (IsS73.ge HI0.out) | refine below_set ?_ GE359.out) | exact HB.out)⟩⟩
    · rw [if_neg c6] at H
      have c6b0 : (s0_2 == 2) = false := beq_eq_false_iff_ne.mpr c6
      have c6b1 : (s0_2 != 2) = true := bne_iff_ne.mpr c6
      (first | rw [c6b0] | (simp only [i64_w, i32_w]; rw [c6b0]) | skip)
      have H' := Aside0.mk H
      clear H
      try go_wp2
      have n0_ := Aside0.mk (blk_drew BK359.out)
      have n1_ := Aside0.mk (IsS73.drew HI0.out)
      have n2_ := Aside0.mk (keep_drew HK.out)
      have n3_ := Aside0.mk (below_drew1 HB.out)
      clear BK359
      clear HI0
      clear HK
      clear HB
      have BK359 := n0_
      have HI0 := n1_
      have HK := n2_
      have HB := n3_
      clear n0_ n1_ n2_ n3_
      refine start_ (n := 14) (S := fun w' => w'.cell? ⟨g, 0, none⟩ = some (.int .i64 s0_0) ∧ w'.cell? ⟨g, 1, none⟩ = some (.int .i64 s0_1) ∧ w'.cell? ⟨g, 2, none⟩ = some (.int .i64 s0_2) ∧ w'.cell? ⟨g, 3, none⟩ = some (.int .i64 s0_3) ∧ w'.cell? ⟨g, 4, none⟩ = some (.string s0_4) ∧ w'.cell? ⟨g, 5, none⟩ = some (.int .i64 s0_5) ∧ w'.cell? ⟨gb359, 0, none⟩ = some (.int .i64 a1_0) ∧ w'.cell? ⟨gb359, 1, none⟩ = some (.int .i64 a1_1) ∧ w'.cell? ⟨gb359, 2, none⟩ = some (.int .i64 a1_2) ∧ w'.cell? ⟨gb359, 3, none⟩ = some (.bool a1_3) ∧ w'.cell? ⟨gb359, 4, none⟩ = some (.int .i64 a1_4) ∧ w'.cell? ⟨gb359, 5, none⟩ = some (.string a1_5)) (ds := []) #[false, false, false, false, false, false, false, false, false, false, false, false, false, false] (by kernel_rfl) rfl rfl ⟨(blk_cell (Aside0.mk HI0.out.1).out 0).trans rfl, (blk_cell (Aside0.mk HI0.out.1).out 1).trans rfl, (blk_cell (Aside0.mk HI0.out.1).out 2).trans rfl, (blk_cell (Aside0.mk HI0.out.1).out 3).trans rfl, (blk_cell (Aside0.mk HI0.out.1).out 4).trans rfl, (blk_cell (Aside0.mk HI0.out.1).out 5).trans rfl, (blk_cell BK359.out 0).trans rfl, (blk_cell BK359.out 1).trans rfl, (blk_cell BK359.out 2).trans rfl, (blk_cell BK359.out 3).trans rfl, (blk_cell BK359.out 4).trans rfl, (blk_cell BK359.out 5).trans rfl⟩ (fun hHeld => ?_); refine with_tabW plenumref49_Receiver_Handle.tab1 plenumref49_Receiver_Handle.bits1 (fun HT_ HW_ => ?_)
      generalize w5.drew = w8 at BK359 HI0 HK HB hHeld ⊢
      refine pure_ (i := 0) (N := some 7) (v := ?_) (a' := ?_) #[true, false, false, false, false, false, false, false, false, false, false, false, false, false] rfl rfl (any_of HT_.out (by kernel_rfl)) (fun _ _ _ h => h) (Or.inl ⟨by rfl, ?_⟩) ?_ ?_
      rotate_left
      · intro w'
        go_simp
        with_reducible rfl
      rotate_left
      · simp only [Act.put, List.setIfInBounds_toArray, List.set_cons_zero, List.set_cons_succ, i64_w, i32_w]
        rfl
      refine pure_ (i := 1) (N := some 8) (v := ?_) (a' := ?_) #[true, true, false, false, false, false, false, false, false, false, false, false, false, false] rfl rfl (any_of HT_.out (by kernel_rfl)) (fun _ _ _ h => h) (Or.inl ⟨by rfl, ?_⟩) ?_ ?_
      rotate_left
      · intro w'
        go_simp
        with_reducible rfl
      rotate_left
      · simp only [Act.put, List.setIfInBounds_toArray, List.set_cons_zero, List.set_cons_succ, i64_w, i32_w]
        rfl
      refine pure_ (i := 2) (N := some 9) (v := ?_) (a' := ?_) #[true, true, true, false, false, false, false, false, false, false, false, false, false, false] rfl rfl (any_of HT_.out (by kernel_rfl)) (fun _ _ _ h => h) (Or.inl ⟨by rfl, ?_⟩) ?_ ?_
      rotate_left
      · intro w'
        go_simp
        with_reducible rfl
      rotate_left
      · simp only [Act.put, List.setIfInBounds_toArray, List.set_cons_zero, List.set_cons_succ, i64_w, i32_w]
        rfl
      refine take_ (i := 3) (N := some 10) (v := ?_) (a' := ?_) #[true, true, true, true, false, false, false, false, false, false, false, false, false, false] rfl rfl (take_ofW HT_.out HW_.out (by kernel_rfl)) (fun _ _ _ h => h) (Or.inl ⟨by rfl, ?_⟩) hHeld ?_ ?_
      rotate_left
      · rintro w' ⟨s0, s1, s2, s3, s4, s5, s6, s7, s8, s9, s10, s11⟩
        go_simp
        with_reducible rfl
      rotate_left
      · simp only [Act.put, List.setIfInBounds_toArray, List.set_cons_zero, List.set_cons_succ, i64_w, i32_w]
        rfl
      refine pure_ (i := 4) (N := some 11) (v := ?_) (a' := ?_) #[true, true, true, true, true, false, false, false, false, false, false, false, false, false] rfl rfl (any_of HT_.out (by kernel_rfl)) (fun _ _ _ h => h) (Or.inl ⟨by rfl, ?_⟩) ?_ ?_
      rotate_left
      · intro w'
        go_simp
        with_reducible rfl
      rotate_left
      · simp only [Act.put, List.setIfInBounds_toArray, List.set_cons_zero, List.set_cons_succ, i64_w, i32_w]
        rfl
      refine pure_ (i := 5) (N := some 12) (v := ?_) (a' := ?_) #[true, true, true, true, true, true, false, false, false, false, false, false, false, false] rfl rfl (any_of HT_.out (by kernel_rfl)) (fun _ _ _ h => h) (Or.inl ⟨by rfl, ?_⟩) ?_ ?_
      rotate_left
      · intro w'
        go_simp
        with_reducible rfl
      rotate_left
      · simp only [Act.put, List.setIfInBounds_toArray, List.set_cons_zero, List.set_cons_succ, i64_w, i32_w]
        rfl
      refine pure_ (i := 6) (N := some 13) (v := ?_) (a' := ?_) #[true, true, true, true, true, true, true, false, false, false, false, false, false, false] rfl rfl (any_of HT_.out (by kernel_rfl)) (fun _ _ _ h => h) (Or.inl ⟨by rfl, ?_⟩) ?_ ?_
      rotate_left
      · intro w'
        go_simp
        with_reducible rfl
      rotate_left
      · simp only [Act.put, List.setIfInBounds_toArray, List.set_cons_zero, List.set_cons_succ, i64_w, i32_w]
        rfl
      refine pure_ (i := 8) (N := some 15) (v := ?_) (a' := ?_) #[true, true, true, true, true, true, true, false, true, false, false, false, false, false] rfl rfl (any_of HT_.out (by kernel_rfl)) (fun _ _ _ h => h) (Or.inl ⟨by rfl, ?_⟩) ?_ ?_
      rotate_left
      · intro w'
        go_simp
        with_reducible rfl
      rotate_left
      · simp only [Act.put, List.setIfInBounds_toArray, List.set_cons_zero, List.set_cons_succ, i64_w, i32_w]
        rfl
      refine pure_ (i := 9) (N := some 16) (v := ?_) (a' := ?_) #[true, true, true, true, true, true, true, false, true, true, false, false, false, false] rfl rfl (any_of HT_.out (by kernel_rfl)) (fun _ _ _ h => h) (Or.inl ⟨by rfl, ?_⟩) ?_ ?_
      rotate_left
      · intro w'
        go_simp
        with_reducible rfl
      rotate_left
      · simp only [Act.put, List.setIfInBounds_toArray, List.set_cons_zero, List.set_cons_succ, i64_w, i32_w]
        rfl
      refine pure_ (i := 10) (N := some 17) (v := ?_) (a' := ?_) #[true, true, true, true, true, true, true, false, true, true, true, false, false, false] rfl rfl (any_of HT_.out (by kernel_rfl)) (fun _ _ _ h => h) (Or.inl ⟨by rfl, ?_⟩) ?_ ?_
      rotate_left
      · intro w'
        go_simp
        with_reducible rfl
      rotate_left
      · simp only [Act.put, List.setIfInBounds_toArray, List.set_cons_zero, List.set_cons_succ, i64_w, i32_w]
        rfl
      refine take_ (i := 7) (N := some 14) (v := ?_) (a' := ?_) #[true, true, true, true, true, true, true, true, true, true, true, false, false, false] rfl rfl (take_ofW HT_.out HW_.out (by kernel_rfl)) (fun _ _ _ h => h) (Or.inl ⟨by rfl, ?_⟩) hHeld ?_ ?_
      rotate_left
      · rintro w' ⟨s0, s1, s2, s3, s4, s5, s6, s7, s8, s9, s10, s11⟩
        go_simp
        with_reducible rfl
      rotate_left
      · simp only [Act.put, List.setIfInBounds_toArray, List.set_cons_zero, List.set_cons_succ, i64_w, i32_w]
        rfl
      refine take_ (i := 11) (N := some 18) (v := ?_) (a' := ?_) #[true, true, true, true, true, true, true, true, true, true, true, true, false, false] rfl rfl (take_ofW HT_.out HW_.out (by kernel_rfl)) (fun _ _ _ h => h) (Or.inl ⟨by rfl, ?_⟩) hHeld ?_ ?_
      rotate_left
      · rintro w' ⟨s0, s1, s2, s3, s4, s5, s6, s7, s8, s9, s10, s11⟩
        go_simp
        with_reducible rfl
      rotate_left
      · simp only [Act.put, List.setIfInBounds_toArray, List.set_cons_zero, List.set_cons_succ, i64_w, i32_w]
        rfl
      refine pure_ (i := 12) (N := some 19) (v := ?_) (a' := ?_) #[true, true, true, true, true, true, true, true, true, true, true, true, true, false] rfl rfl (any_of HT_.out (by kernel_rfl)) (fun _ _ _ h => h) (Or.inl ⟨by rfl, ?_⟩) ?_ ?_
      rotate_left
      · intro w'
        go_simp
        with_reducible rfl
      rotate_left
      · simp only [Act.put, List.setIfInBounds_toArray, List.set_cons_zero, List.set_cons_succ, i64_w, i32_w]
        rfl
      refine pure_ (i := 13) (N := some 20) (v := ?_) (a' := ?_) #[true, true, true, true, true, true, true, true, true, true, true, true, true, true] rfl rfl (any_of HT_.out (by kernel_rfl)) (fun _ _ _ h => h) (Or.inl ⟨by rfl, ?_⟩) ?_ ?_
      rotate_left
      · intro w'
        go_simp
        with_reducible rfl
      rotate_left
      · simp only [Act.put, List.setIfInBounds_toArray, List.set_cons_zero, List.set_cons_succ, i64_w, i32_w]
        rfl
      refine done_ (done_of HT_.out (by kernel_rfl)) ?_
      try go_wp2
      go_meet
      case rel => exact ⟨_, ((a1_1 != s0_0)), (by first | rfl | (simp; done) | (simp [*]; done)), H', ⟨by first | omega | exact Nat.le_refl _⟩, ⟨by (with_reducible repeat (first | refine blk_drewN ?_ _ | refine blk_drew ?_ | refine blk_alloc ?_ _)); exact BK359.out⟩, ⟨by repeat (first | (with_reducible first | exact HI0.out | apply IsS73.alloc | apply IsS73.drewN | apply IsS73.drew | apply IsS73.set_0 | apply IsS73.set_1 | apply IsS73.set_2 | apply IsS73.set_3 | apply IsS73.set_4 | apply IsS73.set_5 | refine IsS73.far ?_ NB0_359.out _) | exact HI0.out)⟩, ⟨by repeat (first | (with_reducible first | exact HK.out | apply KeepBut.set_ | apply keep_drewN | apply keep_drew | apply keep_alloc | refine keep_far ?_ GW359.out _) | exact HK.out)⟩, ⟨by repeat (first | (with_reducible first | exact HB.out | apply below_alloc | apply pw_below_drewN | apply below_drew1 | refine below_set ?_ (IsS73.ge HI0.out) | refine below_set ?_ GE359.out) | exact HB.out)⟩⟩
  case rest =>
    clear HC4
    try clear p2
    try clear c3
    try clear c6
    try clear c6b0
    try clear c6b1
    obtain ⟨kq, x20_3, rfl, HA, HJ3, BK359, HI0, HK, HB⟩ := hcut
    cases kq with
    | zero => exact absurd HA.out (by simp [plenumref49_Receiver_Handle.j0])
    | succ kj3 =>
      have H := HA.out
      clear HA
      simp only [plenumref49_Receiver_Handle.j0] at H
      by_cases c9 : x20_3 = true
      · subst c9
        have H1 : (some (([] : List (S27)), s0_0, s0_1, s0_2, s0_3, s0_4, s0_5)) = some (r1, r2, r3, r4, r5, r6, r7) := by rw [if_pos rfl] at H; exact H
        clear H
        have H := H1
        clear H1
        simp only [Option.some.injEq, Prod.mk.injEq] at H
        obtain ⟨rfl, rfl, rfl, rfl, rfl, rfl, rfl⟩ := H
        go_wp2
        go_ret
        exact ⟨_, by first | rfl | (simp [errW_none, errW_some] <;> rfl) | (simp [*, errW_none, errW_some] <;> rfl), by first | exact Kd.R_nil _ _ _ _ _ | exact Kd.N_nil _ _ _ _ _ | exact Kd.V_nil _ _ _ _ _ | exact Kd.Q_nil _ _ _ _ _ | exact Kd.S_nil _ _ _ _ _, by repeat (first | (with_reducible first | exact HI0.out | apply IsS73.alloc | apply IsS73.drewN | apply IsS73.drew | apply IsS73.set_0 | apply IsS73.set_1 | apply IsS73.set_2 | apply IsS73.set_3 | apply IsS73.set_4 | apply IsS73.set_5 | refine IsS73.far ?_ NB0_359.out _) | exact HI0.out), by repeat (first | (with_reducible first | exact HB.out | apply below_alloc | apply pw_below_drewN | apply below_drew1 | refine below_set ?_ (IsS73.ge HI0.out) | refine below_set ?_ GE359.out) | exact HB.out), by repeat (first | (with_reducible first | exact HK.out | apply KeepBut.set_ | apply keep_drewN | apply keep_drew | apply keep_alloc | refine keep_far ?_ GW359.out _) | exact HK.out)⟩
      · replace c9 := Bool.eq_false_iff.mpr c9
        subst c9
        have H1 : (if a1_0 = 3 then (plenumref49_Receiver_Handle.j1 kj3 a2 (s0_2 == 0) s0_0 s0_1 s0_2 s0_3 s0_4 s0_5 a1_0 a1_1 a1_2 a1_3 a1_4 a1_5) else (plenumref49_Receiver_Handle.j1 kj3 a2 false s0_0 s0_1 s0_2 s0_3 s0_4 s0_5 a1_0 a1_1 a1_2 a1_3 a1_4 a1_5)) = some (r1, r2, r3, r4, r5, r6, r7) := by rw [if_neg (show ¬ (false = true) by decide)] at H; exact H
        clear H
        have H := H1
        clear H1
        have HC10 := Aside0.mk H
        clear H
        go_upto_region 3 with (fail)
        go_cut [30] (fun v30 wc => ∃ (kq : Nat) (x30_9 : Bool), v30 = .bool x30_9 ∧ Aside0 (plenumref49_Receiver_Handle.j1 kq a2 x30_9 s0_0 s0_1 s0_2 s0_3 s0_4 s0_5 a1_0 a1_1 a1_2 a1_3 a1_4 a1_5 = some (r1, r2, r3, r4, r5, r6, r7)) ∧ Aside0 (kq ≤ kj3) ∧ Aside0 (wc.heap[gb359]? = some (.cells #[.int .i64 a1_0, .int .i64 a1_1, .int .i64 a1_2, .bool a1_3, .int .i64 a1_4, .string a1_5] 27 (0, 0))) ∧ Aside0 (IsS73 w0 wc g s0_0 s0_1 s0_2 s0_3 s0_4 s0_5) ∧ Aside0 (KeepBut w wc g none) ∧ Aside0 (Below w0.heap.size w0 wc))
        case first =>
          have H := HC10.out
          clear HC10
          by_cases c11 : a1_0 = 3
          · rw [if_pos c11] at H
            have c11b0 : (a1_0 == 3) = true := beq_iff_eq.mpr c11
            have c11b1 : (a1_0 != 3) = false := bne_eq_false_iff_eq.mpr c11
            clear c11
            (first | rw [c11b0] | (simp only [i64_w, i32_w]; rw [c11b0]) | skip)
            have H' := Aside0.mk H
            clear H
            have hnb12 := NB359_0.out
            have hnc12 := NB0_359.out
            have hcz13_0 : wc.cell? ⟨gb359, 0, none⟩ = some (.int .i64 a1_0) := (blk_cell BK359.out 0).trans rfl
            have hcz13_1 : wc.cell? ⟨gb359, 1, none⟩ = some (.int .i64 a1_1) := (blk_cell BK359.out 1).trans rfl
            have hcz13_2 : wc.cell? ⟨gb359, 2, none⟩ = some (.int .i64 a1_2) := (blk_cell BK359.out 2).trans rfl
            have hcz13_3 : wc.cell? ⟨gb359, 3, none⟩ = some (.bool a1_3) := (blk_cell BK359.out 3).trans rfl
            have hcz13_4 : wc.cell? ⟨gb359, 4, none⟩ = some (.int .i64 a1_4) := (blk_cell BK359.out 4).trans rfl
            have hcz13_5 : wc.cell? ⟨gb359, 5, none⟩ = some (.string a1_5) := (blk_cell BK359.out 5).trans rfl
            have hfz13_0 := blk_frozen BK359.out 0
            have hfz13_1 := blk_frozen BK359.out 1
            have hfz13_2 := blk_frozen BK359.out 2
            have hfz13_3 := blk_frozen BK359.out 3
            have hfz13_4 := blk_frozen BK359.out 4
            have hfz13_5 := blk_frozen BK359.out 5
            obtain ⟨HGz14, hgz14⟩ := HI0.out
            have hcz14_0 := cellS73_0 HGz14
            have hcz14_1 := cellS73_1 HGz14
            have hcz14_2 := cellS73_2 HGz14
            have hcz14_3 := cellS73_3 HGz14
            have hcz14_4 := cellS73_4 HGz14
            have hcz14_5 := cellS73_5 HGz14
            have hfz14_0 := blk_frozen HGz14 0
            have hfz14_1 := blk_frozen HGz14 1
            have hfz14_2 := blk_frozen HGz14 2
            have hfz14_3 := blk_frozen HGz14 3
            have hfz14_4 := blk_frozen HGz14 4
            have hfz14_5 := blk_frozen HGz14 5
            clear HGz14 hgz14
            go_wp2
            go_meet
            case rel => exact ⟨_, ((s0_2 == 0)), (by first | rfl | (simp; done) | (simp [*]; done)), H', ⟨by have := HJ3.out; first | omega | exact Nat.le_refl _⟩, ⟨by (with_reducible repeat (first | refine blk_drewN ?_ _ | refine blk_drew ?_ | refine blk_alloc ?_ _)); exact BK359.out⟩, ⟨by repeat (first | (with_reducible first | exact HI0.out | apply IsS73.alloc | apply IsS73.drewN | apply IsS73.drew | apply IsS73.set_0 | apply IsS73.set_1 | apply IsS73.set_2 | apply IsS73.set_3 | apply IsS73.set_4 | apply IsS73.set_5 | refine IsS73.far ?_ NB0_359.out _) | exact HI0.out)⟩, ⟨by repeat (first | (with_reducible first | exact HK.out | apply KeepBut.set_ | apply keep_drewN | apply keep_drew | apply keep_alloc | refine keep_far ?_ GW359.out _) | exact HK.out)⟩, ⟨by repeat (first | (with_reducible first | exact HB.out | apply below_alloc | apply pw_below_drewN | apply below_drew1 | refine below_set ?_ (IsS73.ge HI0.out) | refine below_set ?_ GE359.out) | exact HB.out)⟩⟩
          · rw [if_neg c11] at H
            have c11b0 : (a1_0 == 3) = false := beq_eq_false_iff_ne.mpr c11
            have c11b1 : (a1_0 != 3) = true := bne_iff_ne.mpr c11
            (first | rw [c11b0] | (simp only [i64_w, i32_w]; rw [c11b0]) | skip)
            have H' := Aside0.mk H
            clear H
            have hnb15 := NB359_0.out
            have hnc15 := NB0_359.out
            have hcz16_0 : wc.cell? ⟨gb359, 0, none⟩ = some (.int .i64 a1_0) := (blk_cell BK359.out 0).trans rfl
            have hcz16_1 : wc.cell? ⟨gb359, 1, none⟩ = some (.int .i64 a1_1) := (blk_cell BK359.out 1).trans rfl
            have hcz16_2 : wc.cell? ⟨gb359, 2, none⟩ = some (.int .i64 a1_2) := (blk_cell BK359.out 2).trans rfl
            have hcz16_3 : wc.cell? ⟨gb359, 3, none⟩ = some (.bool a1_3) := (blk_cell BK359.out 3).trans rfl
            have hcz16_4 : wc.cell? ⟨gb359, 4, none⟩ = some (.int .i64 a1_4) := (blk_cell BK359.out 4).trans rfl
            have hcz16_5 : wc.cell? ⟨gb359, 5, none⟩ = some (.string a1_5) := (blk_cell BK359.out 5).trans rfl
            have hfz16_0 := blk_frozen BK359.out 0
            have hfz16_1 := blk_frozen BK359.out 1
            have hfz16_2 := blk_frozen BK359.out 2
            have hfz16_3 := blk_frozen BK359.out 3
            have hfz16_4 := blk_frozen BK359.out 4
            have hfz16_5 := blk_frozen BK359.out 5
            go_wp2
            go_meet
            case rel => exact ⟨_, (false), (by first | rfl | (simp; done) | (simp [*]; done)), H', ⟨by have := HJ3.out; first | omega | exact Nat.le_refl _⟩, ⟨by (with_reducible repeat (first | refine blk_drewN ?_ _ | refine blk_drew ?_ | refine blk_alloc ?_ _)); exact BK359.out⟩, ⟨by repeat (first | (with_reducible first | exact HI0.out | apply IsS73.alloc | apply IsS73.drewN | apply IsS73.drew | apply IsS73.set_0 | apply IsS73.set_1 | apply IsS73.set_2 | apply IsS73.set_3 | apply IsS73.set_4 | apply IsS73.set_5 | refine IsS73.far ?_ NB0_359.out _) | exact HI0.out)⟩, ⟨by repeat (first | (with_reducible first | exact HK.out | apply KeepBut.set_ | apply keep_drewN | apply keep_drew | apply keep_alloc | refine keep_far ?_ GW359.out _) | exact HK.out)⟩, ⟨by repeat (first | (with_reducible first | exact HB.out | apply below_alloc | apply pw_below_drewN | apply below_drew1 | refine below_set ?_ (IsS73.ge HI0.out) | refine below_set ?_ GE359.out) | exact HB.out)⟩⟩
        case rest =>
          clear HC10
          try clear c1
          try clear p2
          try clear c3
          try clear c6
          try clear c6b0
          try clear c6b1
          try clear c9
          try clear c11
          try clear c11b0
          try clear c11b1
          try clear c12
          try clear c15
          try clear hcz13_0
          try clear hcz13_1
          try clear hcz13_2
          try clear hcz13_3
          try clear hcz13_4
          try clear hcz13_5
          try clear hcz14_0
          try clear hcz14_1
          try clear hcz14_2
          try clear hcz14_3
          try clear hcz14_4
          try clear hcz14_5
          try clear hcz16_0
          try clear hcz16_1
          try clear hcz16_2
          try clear hcz16_3
          try clear hcz16_4
          try clear hcz16_5
          try clear hfz13_0
          try clear hfz13_1
          try clear hfz13_2
          try clear hfz13_3
          try clear hfz13_4
          try clear hfz13_5
          try clear hfz14_0
          try clear hfz14_1
          try clear hfz14_2
          try clear hfz14_3
          try clear hfz14_4
          try clear hfz14_5
          try clear hfz16_0
          try clear hfz16_1
          try clear hfz16_2
          try clear hfz16_3
          try clear hfz16_4
          try clear hfz16_5
          try clear p2
          obtain ⟨kq, x30_9, rfl, HA, HJ9, BK359, HI0, HK, HB⟩ := hcut
          cases kq with
          | zero => exact absurd HA.out (by simp [plenumref49_Receiver_Handle.j1])
          | succ kj9 =>
            have H := HA.out
            clear HA
            simp only [plenumref49_Receiver_Handle.j1] at H
            have HC17 := Aside0.mk H
            clear H
            go_upto_if 30 with (fail)
            go_cut [] (fun wc => ∃ (kq : Nat) (x1002_16 : Int), Aside0 (plenumref49_Receiver_Handle.j2 kq a2 s0_0 s0_1 x1002_16 s0_3 s0_4 s0_5 a1_0 a1_1 a1_2 a1_3 a1_4 a1_5 = some (r1, r2, r3, r4, r5, r6, r7)) ∧ Aside0 (kq ≤ kj9) ∧ Aside0 (wc.heap[gb359]? = some (.cells #[.int .i64 a1_0, .int .i64 a1_1, .int .i64 a1_2, .bool a1_3, .int .i64 a1_4, .string a1_5] 27 (0, 0))) ∧ Aside0 (IsS73 w0 wc g s0_0 s0_1 x1002_16 s0_3 s0_4 s0_5) ∧ Aside0 (KeepBut w wc g none) ∧ Aside0 (Below w0.heap.size w0 wc))
            case first =>
              have H := HC17.out
              clear HC17
              by_cases c18 : x30_9 = true
              · subst c18
                have H1 : (plenumref49_Receiver_Handle.j2 kj9 a2 s0_0 s0_1 2 s0_3 s0_4 s0_5 a1_0 a1_1 a1_2 a1_3 a1_4 a1_5) = some (r1, r2, r3, r4, r5, r6, r7) := by rw [if_pos rfl] at H; exact H
                clear H
                have H := H1
                clear H1
                have H' := Aside0.mk H
                clear H
                obtain ⟨HGz19, hgz19⟩ := HI0.out
                have hcz19_0 := cellS73_0 HGz19
                have hcz19_1 := cellS73_1 HGz19
                have hcz19_2 := cellS73_2 HGz19
                have hcz19_3 := cellS73_3 HGz19
                have hcz19_4 := cellS73_4 HGz19
                have hcz19_5 := cellS73_5 HGz19
                have hfz19_0 := blk_frozen HGz19 0
                have hfz19_1 := blk_frozen HGz19 1
                have hfz19_2 := blk_frozen HGz19 2
                have hfz19_3 := blk_frozen HGz19 3
                have hfz19_4 := blk_frozen HGz19 4
                have hfz19_5 := blk_frozen HGz19 5
                clear HGz19 hgz19
                go_wp2
                go_meet
                case rel => exact ⟨_, (2), H', ⟨by have := HJ3.out; have := HJ9.out; first | omega | exact Nat.le_refl _⟩, ⟨by (with_reducible repeat (first | refine blk_drewN ?_ _ | refine blk_drew ?_ | refine blk_alloc ?_ _)); refine blk_far ?_ NB359_0.out _; (with_reducible repeat (first | refine blk_drewN ?_ _ | refine blk_drew ?_ | refine blk_alloc ?_ _)); exact BK359.out⟩, ⟨by repeat (first | (with_reducible first | exact HI0.out | apply IsS73.alloc | apply IsS73.drewN | apply IsS73.drew | apply IsS73.set_0 | apply IsS73.set_1 | apply IsS73.set_2 | apply IsS73.set_3 | apply IsS73.set_4 | apply IsS73.set_5 | refine IsS73.far ?_ NB0_359.out _) | exact HI0.out)⟩, ⟨by repeat (first | (with_reducible first | exact HK.out | apply KeepBut.set_ | apply keep_drewN | apply keep_drew | apply keep_alloc | refine keep_far ?_ GW359.out _) | exact HK.out)⟩, ⟨by repeat (first | (with_reducible first | exact HB.out | apply below_alloc | apply pw_below_drewN | apply below_drew1 | refine below_set ?_ (IsS73.ge HI0.out) | refine below_set ?_ GE359.out) | exact HB.out)⟩⟩
              · replace c18 := Bool.eq_false_iff.mpr c18
                subst c18
                have H1 : (plenumref49_Receiver_Handle.j2 kj9 a2 s0_0 s0_1 s0_2 s0_3 s0_4 s0_5 a1_0 a1_1 a1_2 a1_3 a1_4 a1_5) = some (r1, r2, r3, r4, r5, r6, r7) := by rw [if_neg (show ¬ (false = true) by decide)] at H; exact H
                clear H
                have H := H1
                clear H1
                have H' := Aside0.mk H
                clear H
                go_wp2
                go_meet
                case rel => exact ⟨_, (s0_2), H', ⟨by have := HJ3.out; have := HJ9.out; first | omega | exact Nat.le_refl _⟩, ⟨by (with_reducible repeat (first | refine blk_drewN ?_ _ | refine blk_drew ?_ | refine blk_alloc ?_ _)); exact BK359.out⟩, ⟨by repeat (first | (with_reducible first | exact HI0.out | apply IsS73.alloc | apply IsS73.drewN | apply IsS73.drew | apply IsS73.set_0 | apply IsS73.set_1 | apply IsS73.set_2 | apply IsS73.set_3 | apply IsS73.set_4 | apply IsS73.set_5 | refine IsS73.far ?_ NB0_359.out _) | exact HI0.out)⟩, ⟨by repeat (first | (with_reducible first | exact HK.out | apply KeepBut.set_ | apply keep_drewN | apply keep_drew | apply keep_alloc | refine keep_far ?_ GW359.out _) | exact HK.out)⟩, ⟨by repeat (first | (with_reducible first | exact HB.out | apply below_alloc | apply pw_below_drewN | apply below_drew1 | refine below_set ?_ (IsS73.ge HI0.out) | refine below_set ?_ GE359.out) | exact HB.out)⟩⟩
            case rest =>
              clear HC17
              try clear c1
              try clear p2
              try clear c3
              try clear c6
              try clear c6b0
              try clear c6b1
              try clear c9
              try clear c11
              try clear c11b0
              try clear c11b1
              try clear c12
              try clear c15
              try clear c18
              try clear hcz13_0
              try clear hcz13_1
              try clear hcz13_2
              try clear hcz13_3
              try clear hcz13_4
              try clear hcz13_5
              try clear hcz14_0
              try clear hcz14_1
              try clear hcz14_2
              try clear hcz14_3
              try clear hcz14_4
              try clear hcz14_5
              try clear hcz16_0
              try clear hcz16_1
              try clear hcz16_2
              try clear hcz16_3
              try clear hcz16_4
              try clear hcz16_5
              try clear hcz19_0
              try clear hcz19_1
              try clear hcz19_2
              try clear hcz19_3
              try clear hcz19_4
              try clear hcz19_5
              try clear hfz13_0
              try clear hfz13_1
              try clear hfz13_2
              try clear hfz13_3
              try clear hfz13_4
              try clear hfz13_5
              try clear hfz14_0
              try clear hfz14_1
              try clear hfz14_2
              try clear hfz14_3
              try clear hfz14_4
              try clear hfz14_5
              try clear hfz16_0
              try clear hfz16_1
              try clear hfz16_2
              try clear hfz16_3
              try clear hfz16_4
              try clear hfz16_5
              try clear hfz19_0
              try clear hfz19_1
              try clear hfz19_2
              try clear hfz19_3
              try clear hfz19_4
              try clear hfz19_5
              try clear p2
              obtain ⟨kq, x1002_16, HA, HJ16, BK359, HI0, HK, HB⟩ := hcut
              cases kq with
              | zero => exact absurd HA.out (by simp [plenumref49_Receiver_Handle.j2])
              | succ kj16 =>
                have H := HA.out
                clear HA
                simp only [plenumref49_Receiver_Handle.j2] at H
                by_cases c20 : a1_0 = 1
                · rw [if_pos c20] at H
                  have c20b0 : (a1_0 == 1) = true := beq_iff_eq.mpr c20
                  have c20b1 : (a1_0 != 1) = false := bne_eq_false_iff_eq.mpr c20
                  clear c20
                  by_cases c21 : x1002_16 = 0
                  · rw [if_pos c21] at H
                    have c21b0 : (x1002_16 == 0) = true := beq_iff_eq.mpr c21
                    have c21b1 : (x1002_16 != 0) = false := bne_eq_false_iff_eq.mpr c21
                    clear c21
                    by_cases c22 : a1_2 = s0_3
                    · rw [if_pos c22] at H
                      have c22b0 : (a1_2 == s0_3) = true := beq_iff_eq.mpr c22
                      have c22b1 : (a1_2 != s0_3) = false := bne_eq_false_iff_eq.mpr c22
                      clear c22
                      by_cases c23 : s0_4.size + a1_5.size ≤ 9223372036854775807
                      · rw [if_pos c23] at H
                        have c23b0 := eq_true c23
                        have c23b1 : decide (s0_4.size + a1_5.size ≤ 9223372036854775807) = true := decide_eq_true c23
                        try have c23b2 : (9223372036854775807 < s0_4.size + a1_5.size) = False := eq_false (Nat.not_lt.2 c23)
                        by_cases c24 : a1_3 = true
                        · subst c24
                          have H1 : (some ((([(⟨2, s0_0, wrap64 ((wrap64 (s0_3 + 1)) - 1), false, 0, (⟨#[]⟩ : ByteArray)⟩ : S27)] : List (S27))), s0_0, s0_1, x1002_16, wrap64 (s0_3 + 1), s0_4 ++ a1_5, wrap64 (a2 + s0_1))) = some (r1, r2, r3, r4, r5, r6, r7) := by rw [if_pos rfl] at H; exact H
                          clear H
                          have H := H1
                          clear H1
                          obtain ⟨y360, hy360⟩ : ∃ y_ : List (S27), y_ = (([(⟨2, s0_0, wrap64 ((wrap64 (s0_3 + 1)) - 1), false, 0, (⟨#[]⟩ : ByteArray)⟩ : S27)] : List (S27))) := ⟨_, rfl⟩
                          replace H : (some (y360, s0_0, s0_1, x1002_16, wrap64 (s0_3 + 1), s0_4 ++ a1_5, wrap64 (a2 + s0_1))) = some (r1, r2, r3, r4, r5, r6, r7) := by first | (rw [hy360]; with_reducible exact H) | (have H2_ := (Option.bind_some _ _).symm.trans H; rw [hy360]; with_reducible exact H2_) | (have H2_ := (Option.bind_some _ _).symm.trans H; with_reducible exact H2_) | with_reducible exact H | (rw [hy360]; exact H) | exact H
                          have Ny360 := Aside0.mk hy360
                          clear hy360
                          simp only [Option.some.injEq, Prod.mk.injEq] at H
                          obtain ⟨rfl, rfl, rfl, rfl, rfl, rfl, rfl⟩ := H
                          have hnb25 := NB359_0.out
                          have hnc25 := NB0_359.out
                          have hcz26_0 : wc.cell? ⟨gb359, 0, none⟩ = some (.int .i64 a1_0) := (blk_cell BK359.out 0).trans rfl
                          have hcz26_1 : wc.cell? ⟨gb359, 1, none⟩ = some (.int .i64 a1_1) := (blk_cell BK359.out 1).trans rfl
                          have hcz26_2 : wc.cell? ⟨gb359, 2, none⟩ = some (.int .i64 a1_2) := (blk_cell BK359.out 2).trans rfl
                          have hcz26_3 : wc.cell? ⟨gb359, 3, none⟩ = some (.bool true) := (blk_cell BK359.out 3).trans rfl
                          have hcz26_4 : wc.cell? ⟨gb359, 4, none⟩ = some (.int .i64 a1_4) := (blk_cell BK359.out 4).trans rfl
                          have hcz26_5 : wc.cell? ⟨gb359, 5, none⟩ = some (.string a1_5) := (blk_cell BK359.out 5).trans rfl
                          have hfz26_0 := blk_frozen BK359.out 0
                          have hfz26_1 := blk_frozen BK359.out 1
                          have hfz26_2 := blk_frozen BK359.out 2
                          have hfz26_3 := blk_frozen BK359.out 3
                          have hfz26_4 := blk_frozen BK359.out 4
                          have hfz26_5 := blk_frozen BK359.out 5
                          obtain ⟨HGz27, hgz27⟩ := HI0.out
                          have hcz27_0 := cellS73_0 HGz27
                          have hcz27_1 := cellS73_1 HGz27
                          have hcz27_2 := cellS73_2 HGz27
                          have hcz27_3 := cellS73_3 HGz27
                          have hcz27_4 := cellS73_4 HGz27
                          have hcz27_5 := cellS73_5 HGz27
                          have hfz27_0 := blk_frozen HGz27 0
                          have hfz27_1 := blk_frozen HGz27 1
                          have hfz27_2 := blk_frozen HGz27 2
                          have hfz27_3 := blk_frozen HGz27 3
                          have hfz27_4 := blk_frozen HGz27 4
                          have hfz27_5 := blk_frozen HGz27 5
                          clear HGz27 hgz27
                          try go_wp2
                          have n0_ := Aside0.mk (blk_drew BK359.out)
                          have n1_ := Aside0.mk (IsS73.drew HI0.out)
                          have n2_ := Aside0.mk (keep_drew HK.out)
                          have n3_ := Aside0.mk (below_drew1 HB.out)
                          clear BK359
                          clear HI0
                          clear HK
                          clear HB
                          have BK359 := n0_
                          have HI0 := n1_
                          have HK := n2_
                          have HB := n3_
                          clear n0_ n1_ n2_ n3_
                          refine start_ (n := 7) (S := fun w' => w'.cell? ⟨gb359, 0, none⟩ = some (.int .i64 a1_0) ∧ w'.cell? ⟨gb359, 1, none⟩ = some (.int .i64 a1_1) ∧ w'.cell? ⟨gb359, 2, none⟩ = some (.int .i64 a1_2) ∧ w'.cell? ⟨gb359, 3, none⟩ = some (.bool true) ∧ w'.cell? ⟨gb359, 4, none⟩ = some (.int .i64 a1_4) ∧ w'.cell? ⟨gb359, 5, none⟩ = some (.string a1_5) ∧ w'.cell? ⟨g, 0, none⟩ = some (.int .i64 s0_0) ∧ w'.cell? ⟨g, 1, none⟩ = some (.int .i64 s0_1) ∧ w'.cell? ⟨g, 2, none⟩ = some (.int .i64 x1002_16) ∧ w'.cell? ⟨g, 3, none⟩ = some (.int .i64 s0_3) ∧ w'.cell? ⟨g, 4, none⟩ = some (.string s0_4) ∧ w'.cell? ⟨g, 5, none⟩ = some (.int .i64 s0_5)) (ds := []) #[false, false, false, false, false, false, false] (by kernel_rfl) rfl rfl ⟨(blk_cell BK359.out 0).trans rfl, (blk_cell BK359.out 1).trans rfl, (blk_cell BK359.out 2).trans rfl, (blk_cell BK359.out 3).trans rfl, (blk_cell BK359.out 4).trans rfl, (blk_cell BK359.out 5).trans rfl, (blk_cell (Aside0.mk HI0.out.1).out 0).trans rfl, (blk_cell (Aside0.mk HI0.out.1).out 1).trans rfl, (blk_cell (Aside0.mk HI0.out.1).out 2).trans rfl, (blk_cell (Aside0.mk HI0.out.1).out 3).trans rfl, (blk_cell (Aside0.mk HI0.out.1).out 4).trans rfl, (blk_cell (Aside0.mk HI0.out.1).out 5).trans rfl⟩ (fun hHeld => ?_)
                          generalize wc.drew = w28 at BK359 HI0 HK HB hHeld ⊢
                          refine pure_ (i := 0) (N := some 42) (v := ?_) (a' := ?_) #[true, false, false, false, false, false, false] rfl rfl (by kernel_rfl) (fun _ _ _ h => h) (Or.inl ⟨by rfl, ?_⟩) ?_ ?_
                          rotate_left
                          · intro w'
                            go_simp
                            with_reducible rfl
                          rotate_left
                          · simp only [Act.put, List.setIfInBounds_toArray, List.set_cons_zero, List.set_cons_succ, i64_w, i32_w]
                            rfl
                          refine pure_ (i := 2) (N := some 44) (v := ?_) (a' := ?_) #[true, false, true, false, false, false, false] rfl rfl (by kernel_rfl) (fun _ _ _ h => h) (Or.inl ⟨by rfl, ?_⟩) ?_ ?_
                          rotate_left
                          · intro w'
                            go_simp
                            with_reducible rfl
                          rotate_left
                          · simp only [Act.put, List.setIfInBounds_toArray, List.set_cons_zero, List.set_cons_succ, i64_w, i32_w]
                            rfl
                          refine pure_ (i := 3) (N := some 45) (v := ?_) (a' := ?_) #[true, false, true, true, false, false, false] rfl rfl (by kernel_rfl) (fun _ _ _ h => h) (Or.inl ⟨by rfl, ?_⟩) ?_ ?_
                          rotate_left
                          · intro w'
                            go_simp
                            with_reducible rfl
                          rotate_left
                          · simp only [Act.put, List.setIfInBounds_toArray, List.set_cons_zero, List.set_cons_succ, i64_w, i32_w]
                            rfl
                          refine pure_ (i := 4) (N := some 46) (v := ?_) (a' := ?_) #[true, false, true, true, true, false, false] rfl rfl (by kernel_rfl) (fun _ _ _ h => h) (Or.inl ⟨by rfl, ?_⟩) ?_ ?_
                          rotate_left
                          · intro w'
                            go_simp
                            with_reducible rfl
                          rotate_left
                          · simp only [Act.put, List.setIfInBounds_toArray, List.set_cons_zero, List.set_cons_succ, i64_w, i32_w]
                            rfl
                          refine take_ (i := 1) (N := some 43) (v := ?_) (a' := ?_) #[true, true, true, true, true, false, false] rfl rfl (by kernel_rfl) (fun _ _ _ h => h) (Or.inl ⟨by rfl, ?_⟩) hHeld ?_ ?_
                          rotate_left
                          · rintro w' ⟨s0, s1, s2, s3, s4, s5, s6, s7, s8, s9, s10, s11⟩
                            go_simp
                            with_reducible rfl
                          rotate_left
                          · simp only [Act.put, List.setIfInBounds_toArray, List.set_cons_zero, List.set_cons_succ, i64_w, i32_w]
                            rfl
                          refine take_ (i := 5) (N := some 47) (v := ?_) (a' := ?_) #[true, true, true, true, true, true, false] rfl rfl (by kernel_rfl) (fun _ _ _ h => h) (Or.inl ⟨by rfl, ?_⟩) hHeld ?_ ?_
                          rotate_left
                          · rintro w' ⟨s0, s1, s2, s3, s4, s5, s6, s7, s8, s9, s10, s11⟩
                            go_simp
                            with_reducible rfl
                          rotate_left
                          · simp only [Act.put, List.setIfInBounds_toArray, List.set_cons_zero, List.set_cons_succ, i64_w, i32_w]
                            rfl
                          refine pure_ (i := 6) (N := some 48) (v := ?_) (a' := ?_) #[true, true, true, true, true, true, true] rfl rfl (by kernel_rfl) (fun _ _ _ h => h) (Or.inl ⟨by rfl, ?_⟩) ?_ ?_
                          rotate_left
                          · intro w'
                            go_simp
                            with_reducible rfl
                          rotate_left
                          · simp only [Act.put, List.setIfInBounds_toArray, List.set_cons_zero, List.set_cons_succ, i64_w, i32_w]
                            rfl
                          refine done_ (by kernel_rfl) ?_
                          obtain ⟨HGz29, hgz29⟩ := HI0.out
                          have hcz29_0 := cellS73_0 HGz29
                          have hcz29_1 := cellS73_1 HGz29
                          have hcz29_2 := cellS73_2 HGz29
                          have hcz29_3 := cellS73_3 HGz29
                          have hcz29_4 := cellS73_4 HGz29
                          have hcz29_5 := cellS73_5 HGz29
                          have hfz29_0 := blk_frozen HGz29 0
                          have hfz29_1 := blk_frozen HGz29 1
                          have hfz29_2 := blk_frozen HGz29 2
                          have hfz29_3 := blk_frozen HGz29 3
                          have hfz29_4 := blk_frozen HGz29 4
                          have hfz29_5 := blk_frozen HGz29 5
                          clear HGz29 hgz29
                          try go_wp2
                          have n0_ : Aside0 ((w28.setCell ⟨g, 3, none⟩ (.int .i64 (wrap64 (s0_3 + 1)))).heap[gb359]? = some (.cells #[.int .i64 a1_0, .int .i64 a1_1, .int .i64 a1_2, .bool true, .int .i64 a1_4, .string a1_5] 27 (0, 0))) := ⟨by (with_reducible repeat (first | refine blk_drewN ?_ _ | refine blk_drew ?_ | refine blk_alloc ?_ _)); refine blk_far ?_ NB359_0.out _; (with_reducible repeat (first | refine blk_drewN ?_ _ | refine blk_drew ?_ | refine blk_alloc ?_ _)); exact BK359.out⟩
                          have n1_ : Aside0 (IsS73 w0 (w28.setCell ⟨g, 3, none⟩ (.int .i64 (wrap64 (s0_3 + 1)))) g s0_0 s0_1 x1002_16 (wrap64 (s0_3 + 1)) s0_4 s0_5) := ⟨by repeat (first | (with_reducible first | exact HI0.out | apply IsS73.alloc | apply IsS73.drewN | apply IsS73.drew | apply IsS73.set_0 | apply IsS73.set_1 | apply IsS73.set_2 | apply IsS73.set_3 | apply IsS73.set_4 | apply IsS73.set_5 | refine IsS73.far ?_ NB0_359.out _) | exact HI0.out)⟩
                          have n2_ : Aside0 (KeepBut w (w28.setCell ⟨g, 3, none⟩ (.int .i64 (wrap64 (s0_3 + 1)))) g none) := ⟨by repeat (first | (with_reducible first | exact HK.out | apply KeepBut.set_ | apply keep_drewN | apply keep_drew | apply keep_alloc | refine keep_far ?_ GW359.out _) | exact HK.out)⟩
                          have n3_ : Aside0 (Below w0.heap.size w0 (w28.setCell ⟨g, 3, none⟩ (.int .i64 (wrap64 (s0_3 + 1))))) := ⟨by repeat (first | (with_reducible first | exact HB.out | apply below_alloc | apply pw_below_drewN | apply below_drew1 | refine below_set ?_ (IsS73.ge HI0.out) | refine below_set ?_ GE359.out) | exact HB.out)⟩
                          (try clear BK359)
                          (try clear HI0)
                          (try clear HK)
                          (try clear HB)
                          generalize (w28.setCell ⟨g, 3, none⟩ (.int .i64 (wrap64 (s0_3 + 1)))) = w30 at n0_ n1_ n2_ n3_ ⊢
                          have BK359 := n0_
                          have HI0 := n1_
                          have HK := n2_
                          have HB := n3_
                          clear n0_ n1_ n2_ n3_
                          have n0_ := Aside0.mk (blk_drew BK359.out)
                          have n1_ := Aside0.mk (IsS73.drew HI0.out)
                          have n2_ := Aside0.mk (keep_drew HK.out)
                          have n3_ := Aside0.mk (below_drew1 HB.out)
                          clear BK359
                          clear HI0
                          clear HK
                          clear HB
                          have BK359 := n0_
                          have HI0 := n1_
                          have HK := n2_
                          have HB := n3_
                          clear n0_ n1_ n2_ n3_
                          refine start_ (n := 10) (S := fun w' => w'.cell? ⟨g, 0, none⟩ = some (.int .i64 s0_0) ∧ w'.cell? ⟨g, 1, none⟩ = some (.int .i64 s0_1) ∧ w'.cell? ⟨g, 2, none⟩ = some (.int .i64 x1002_16) ∧ w'.cell? ⟨g, 3, none⟩ = some (.int .i64 (wrap64 (s0_3 + 1))) ∧ w'.cell? ⟨g, 4, none⟩ = some (.string s0_4) ∧ w'.cell? ⟨g, 5, none⟩ = some (.int .i64 s0_5) ∧ w'.cell? ⟨gb359, 0, none⟩ = some (.int .i64 a1_0) ∧ w'.cell? ⟨gb359, 1, none⟩ = some (.int .i64 a1_1) ∧ w'.cell? ⟨gb359, 2, none⟩ = some (.int .i64 a1_2) ∧ w'.cell? ⟨gb359, 3, none⟩ = some (.bool true) ∧ w'.cell? ⟨gb359, 4, none⟩ = some (.int .i64 a1_4) ∧ w'.cell? ⟨gb359, 5, none⟩ = some (.string a1_5)) (ds := [9]) #[false, false, false, false, false, false, false, false, false, false] (by kernel_rfl) rfl rfl ⟨(blk_cell (Aside0.mk HI0.out.1).out 0).trans rfl, (blk_cell (Aside0.mk HI0.out.1).out 1).trans rfl, (blk_cell (Aside0.mk HI0.out.1).out 2).trans rfl, (blk_cell (Aside0.mk HI0.out.1).out 3).trans rfl, (blk_cell (Aside0.mk HI0.out.1).out 4).trans rfl, (blk_cell (Aside0.mk HI0.out.1).out 5).trans rfl, (blk_cell BK359.out 0).trans rfl, (blk_cell BK359.out 1).trans rfl, (blk_cell BK359.out 2).trans rfl, (blk_cell BK359.out 3).trans rfl, (blk_cell BK359.out 4).trans rfl, (blk_cell BK359.out 5).trans rfl⟩ (fun hHeld => ?_); refine with_tabW plenumref49_Receiver_Handle.tab10 plenumref49_Receiver_Handle.bits10 (fun HT_ HW_ => ?_)
                          generalize w30.drew = w31 at BK359 HI0 HK HB hHeld ⊢
                          have hfz4_ := blk_frozen HI0.out.1 4
                          have hcz4_ := (blk_cell HI0.out.1 4).trans rfl
                          refine pure_ (i := 0) (N := some 56) (v := ?_) (a' := ?_) #[true, false, false, false, false, false, false, false, false, false] rfl rfl (any_of HT_.out (by kernel_rfl)) (fun _ _ _ h => h) (Or.inl ⟨by rfl, ?_⟩) ?_ ?_
                          rotate_left
                          · intro w'
                            go_simp
                            with_reducible rfl
                          rotate_left
                          · simp only [Act.put, List.setIfInBounds_toArray, List.set_cons_zero, List.set_cons_succ, i64_w, i32_w]
                            rfl
                          refine pure_ (i := 1) (N := some 57) (v := ?_) (a' := ?_) #[true, true, false, false, false, false, false, false, false, false] rfl rfl (any_of HT_.out (by kernel_rfl)) (fun _ _ _ h => h) (Or.inl ⟨by rfl, ?_⟩) ?_ ?_
                          rotate_left
                          · intro w'
                            go_simp
                            with_reducible rfl
                          rotate_left
                          · simp only [Act.put, List.setIfInBounds_toArray, List.set_cons_zero, List.set_cons_succ, i64_w, i32_w]
                            rfl
                          refine pure_ (i := 2) (N := some 58) (v := ?_) (a' := ?_) #[true, true, true, false, false, false, false, false, false, false] rfl rfl (any_of HT_.out (by kernel_rfl)) (fun _ _ _ h => h) (Or.inl ⟨by rfl, ?_⟩) ?_ ?_
                          rotate_left
                          · intro w'
                            go_simp
                            with_reducible rfl
                          rotate_left
                          · simp only [Act.put, List.setIfInBounds_toArray, List.set_cons_zero, List.set_cons_succ, i64_w, i32_w]
                            rfl
                          refine pure_ (i := 4) (N := some 60) (v := ?_) (a' := ?_) #[true, true, true, false, true, false, false, false, false, false] rfl rfl (any_of HT_.out (by kernel_rfl)) (fun _ _ _ h => h) (Or.inl ⟨by rfl, ?_⟩) ?_ ?_
                          rotate_left
                          · intro w'
                            go_simp
                            with_reducible rfl
                          rotate_left
                          · simp only [Act.put, List.setIfInBounds_toArray, List.set_cons_zero, List.set_cons_succ, i64_w, i32_w]
                            rfl
                          refine take_ (i := 3) (N := some 59) (v := ?_) (a' := ?_) #[true, true, true, true, true, false, false, false, false, false] rfl rfl (take_ofW HT_.out HW_.out (by kernel_rfl)) (fun _ _ _ h => h) (Or.inl ⟨by rfl, ?_⟩) hHeld ?_ ?_
                          rotate_left
                          · rintro w' ⟨s0, s1, s2, s3, s4, s5, s6, s7, s8, s9, s10, s11⟩
                            go_simp
                            with_reducible rfl
                          rotate_left
                          · simp only [Act.put, List.setIfInBounds_toArray, List.set_cons_zero, List.set_cons_succ, i64_w, i32_w]
                            rfl
                          refine take_ (i := 5) (N := some 61) (v := ?_) (a' := ?_) #[true, true, true, true, true, true, false, false, false, false] rfl rfl (take_ofW HT_.out HW_.out (by kernel_rfl)) (fun _ _ _ h => h) (Or.inl ⟨by rfl, ?_⟩) hHeld ?_ ?_
                          rotate_left
                          · rintro w' ⟨s0, s1, s2, s3, s4, s5, s6, s7, s8, s9, s10, s11⟩
                            go_simp
                            with_reducible rfl
                          rotate_left
                          · simp only [Act.put, List.setIfInBounds_toArray, List.set_cons_zero, List.set_cons_succ, i64_w, i32_w]
                            rfl
                          refine pure_ (i := 6) (N := some 62) (v := ?_) (a' := ?_) #[true, true, true, true, true, true, true, false, false, false] rfl rfl (any_of HT_.out (by kernel_rfl)) (fun _ _ _ h => h) (Or.inl ⟨by rfl, ?_⟩) ?_ ?_
                          rotate_left
                          · intro w'
                            go_simp
                            with_reducible rfl
                          rotate_left
                          · simp only [Act.put, List.setIfInBounds_toArray, List.set_cons_zero, List.set_cons_succ, i64_w, i32_w]
                            rfl
                          refine pure_ (i := 7) (N := some 63) (v := ?_) (a' := ?_) #[true, true, true, true, true, true, true, true, false, false] rfl rfl (any_of HT_.out (by kernel_rfl)) (fun _ _ _ h => h) (Or.inl ⟨by rfl, ?_⟩) ?_ ?_
                          rotate_left
                          · intro w'
                            go_simp
                            with_reducible rfl
                          rotate_left
                          · simp only [Act.put, List.setIfInBounds_toArray, List.set_cons_zero, List.set_cons_succ, i64_w, i32_w]
                            rfl
                          refine pure_ (i := 8) (N := some 64) (v := ?_) (a' := ?_) #[true, true, true, true, true, true, true, true, true, false] rfl rfl (any_of HT_.out (by kernel_rfl)) (fun _ _ _ h => h) (Or.inl ⟨by rfl, ?_⟩) ?_ ?_
                          rotate_left
                          · intro w'
                            go_simp
                            with_reducible rfl
                          rotate_left
                          · simp only [Act.put, List.setIfInBounds_toArray, List.set_cons_zero, List.set_cons_succ, i64_w, i32_w]
                            rfl
                          refine last_ (i := 9) (N := none) #[true, true, true, true, true, true, true, true, true, true] rfl rfl (one_of HT_.out (by kernel_rfl)) (by decide) (fun K hK => ?_)
                          refine skip_ (w1 := ?_) (by rfl) rfl ?_ ?_
                          rotate_left
                          · go_simp
                            rfl
                          refine hK.out _ _ ?_
                          clear hK K
                          refine done_ (done_of HT_.out (by kernel_rfl)) ?_
                          have hcz32_0 : w31.cell? ⟨gb359, 0, none⟩ = some (.int .i64 a1_0) := (blk_cell BK359.out 0).trans rfl
                          have hcz32_1 : w31.cell? ⟨gb359, 1, none⟩ = some (.int .i64 a1_1) := (blk_cell BK359.out 1).trans rfl
                          have hcz32_2 : w31.cell? ⟨gb359, 2, none⟩ = some (.int .i64 a1_2) := (blk_cell BK359.out 2).trans rfl
                          have hcz32_3 : w31.cell? ⟨gb359, 3, none⟩ = some (.bool true) := (blk_cell BK359.out 3).trans rfl
                          have hcz32_4 : w31.cell? ⟨gb359, 4, none⟩ = some (.int .i64 a1_4) := (blk_cell BK359.out 4).trans rfl
                          have hcz32_5 : w31.cell? ⟨gb359, 5, none⟩ = some (.string a1_5) := (blk_cell BK359.out 5).trans rfl
                          have hfz32_0 := blk_frozen BK359.out 0
                          have hfz32_1 := blk_frozen BK359.out 1
                          have hfz32_2 := blk_frozen BK359.out 2
                          have hfz32_3 := blk_frozen BK359.out 3
                          have hfz32_4 := blk_frozen BK359.out 4
                          have hfz32_5 := blk_frozen BK359.out 5
                          obtain ⟨HGz33, hgz33⟩ := HI0.out
                          have hcz33_0 := cellS73_0 HGz33
                          have hcz33_1 := cellS73_1 HGz33
                          have hcz33_2 := cellS73_2 HGz33
                          have hcz33_3 := cellS73_3 HGz33
                          have hcz33_4 := cellS73_4 HGz33
                          have hcz33_5 := cellS73_5 HGz33
                          have hfz33_0 := blk_frozen HGz33 0
                          have hfz33_1 := blk_frozen HGz33 1
                          have hfz33_2 := blk_frozen HGz33 2
                          have hfz33_3 := blk_frozen HGz33 3
                          have hfz33_4 := blk_frozen HGz33 4
                          have hfz33_5 := blk_frozen HGz33 5
                          clear HGz33 hgz33
                          try go_wp2
                          have n0_ : Aside0 (((w31.setCell ⟨g, 4, none⟩ (.string (s0_4 ++ a1_5))).setCell ⟨g, 5, none⟩ (.int .i64 (wrap64 (a2 + s0_1)))).heap[gb359]? = some (.cells #[.int .i64 a1_0, .int .i64 a1_1, .int .i64 a1_2, .bool true, .int .i64 a1_4, .string a1_5] 27 (0, 0))) := ⟨by (with_reducible repeat (first | refine blk_drewN ?_ _ | refine blk_drew ?_ | refine blk_alloc ?_ _)); refine blk_far ?_ NB359_0.out _; (with_reducible repeat (first | refine blk_drewN ?_ _ | refine blk_drew ?_ | refine blk_alloc ?_ _)); refine blk_far ?_ NB359_0.out _; (with_reducible repeat (first | refine blk_drewN ?_ _ | refine blk_drew ?_ | refine blk_alloc ?_ _)); exact BK359.out⟩
                          have n1_ : Aside0 (IsS73 w0 ((w31.setCell ⟨g, 4, none⟩ (.string (s0_4 ++ a1_5))).setCell ⟨g, 5, none⟩ (.int .i64 (wrap64 (a2 + s0_1)))) g s0_0 s0_1 x1002_16 (wrap64 (s0_3 + 1)) (s0_4 ++ a1_5) (wrap64 (a2 + s0_1))) := ⟨by repeat (first | (with_reducible first | exact HI0.out | apply IsS73.alloc | apply IsS73.drewN | apply IsS73.drew | apply IsS73.set_0 | apply IsS73.set_1 | apply IsS73.set_2 | apply IsS73.set_3 | apply IsS73.set_4 | apply IsS73.set_5 | refine IsS73.far ?_ NB0_359.out _) | exact HI0.out)⟩
                          have n2_ : Aside0 (KeepBut w ((w31.setCell ⟨g, 4, none⟩ (.string (s0_4 ++ a1_5))).setCell ⟨g, 5, none⟩ (.int .i64 (wrap64 (a2 + s0_1)))) g none) := ⟨by repeat (first | (with_reducible first | exact HK.out | apply KeepBut.set_ | apply keep_drewN | apply keep_drew | apply keep_alloc | refine keep_far ?_ GW359.out _) | exact HK.out)⟩
                          have n3_ : Aside0 (Below w0.heap.size w0 ((w31.setCell ⟨g, 4, none⟩ (.string (s0_4 ++ a1_5))).setCell ⟨g, 5, none⟩ (.int .i64 (wrap64 (a2 + s0_1))))) := ⟨by repeat (first | (with_reducible first | exact HB.out | apply below_alloc | apply pw_below_drewN | apply below_drew1 | refine below_set ?_ (IsS73.ge HI0.out) | refine below_set ?_ GE359.out) | exact HB.out)⟩
                          (try clear BK359)
                          (try clear HI0)
                          (try clear HK)
                          (try clear HB)
                          generalize ((w31.setCell ⟨g, 4, none⟩ (.string (s0_4 ++ a1_5))).setCell ⟨g, 5, none⟩ (.int .i64 (wrap64 (a2 + s0_1)))) = w34 at n0_ n1_ n2_ n3_ ⊢
                          have BK359 := n0_
                          have HI0 := n1_
                          have HK := n2_
                          have HB := n3_
                          clear n0_ n1_ n2_ n3_
                          have n0_ := Aside0.mk (blk_drew BK359.out)
                          have n1_ := Aside0.mk (IsS73.drew HI0.out)
                          have n2_ := Aside0.mk (keep_drew HK.out)
                          have n3_ := Aside0.mk (below_drew1 HB.out)
                          clear BK359
                          clear HI0
                          clear HK
                          clear HB
                          have BK359 := n0_
                          have HI0 := n1_
                          have HK := n2_
                          have HB := n3_
                          clear n0_ n1_ n2_ n3_
                          refine start_ (n := 12) (S := fun w' => w'.cell? ⟨g, 0, none⟩ = some (.int .i64 s0_0) ∧ w'.cell? ⟨g, 1, none⟩ = some (.int .i64 s0_1) ∧ w'.cell? ⟨g, 2, none⟩ = some (.int .i64 x1002_16) ∧ w'.cell? ⟨g, 3, none⟩ = some (.int .i64 (wrap64 (s0_3 + 1))) ∧ w'.cell? ⟨g, 4, none⟩ = some (.string (s0_4 ++ a1_5)) ∧ w'.cell? ⟨g, 5, none⟩ = some (.int .i64 (wrap64 (a2 + s0_1)))) (ds := []) #[false, false, false, false, false, false, false, false, false, false, false, false] (by kernel_rfl) rfl rfl ⟨(blk_cell (Aside0.mk HI0.out.1).out 0).trans rfl, (blk_cell (Aside0.mk HI0.out.1).out 1).trans rfl, (blk_cell (Aside0.mk HI0.out.1).out 2).trans rfl, (blk_cell (Aside0.mk HI0.out.1).out 3).trans rfl, (blk_cell (Aside0.mk HI0.out.1).out 4).trans rfl, (blk_cell (Aside0.mk HI0.out.1).out 5).trans rfl⟩ (fun hHeld => ?_); refine with_tabW plenumref49_Receiver_Handle.tab14 plenumref49_Receiver_Handle.bits14 (fun HT_ HW_ => ?_)
                          generalize w34.drew = w35 at BK359 HI0 HK HB hHeld ⊢
                          refine pure_ (i := 0) (N := some 80) (v := ?_) (a' := ?_) #[true, false, false, false, false, false, false, false, false, false, false, false] rfl rfl (any_of HT_.out (by kernel_rfl)) (fun _ _ _ h => h) (Or.inl ⟨by rfl, ?_⟩) ?_ ?_
                          rotate_left
                          · intro w'
                            go_simp
                            with_reducible rfl
                          rotate_left
                          · simp only [Act.put, List.setIfInBounds_toArray, List.set_cons_zero, List.set_cons_succ, i64_w, i32_w]
                            rfl
                          refine pure_ (i := 1) (N := some 81) (v := ?_) (a' := ?_) #[true, true, false, false, false, false, false, false, false, false, false, false] rfl rfl (any_of HT_.out (by kernel_rfl)) (fun _ _ _ h => h) (Or.inl ⟨by rfl, ?_⟩) ?_ ?_
                          rotate_left
                          · intro w'
                            go_simp
                            with_reducible rfl
                          rotate_left
                          · simp only [Act.put, List.setIfInBounds_toArray, List.set_cons_zero, List.set_cons_succ, i64_w, i32_w]
                            rfl
                          refine pure_ (i := 2) (N := some 82) (v := ?_) (a' := ?_) #[true, true, true, false, false, false, false, false, false, false, false, false] rfl rfl (any_of HT_.out (by kernel_rfl)) (fun _ _ _ h => h) (Or.inl ⟨by rfl, ?_⟩) ?_ ?_
                          rotate_left
                          · intro w'
                            go_simp
                            with_reducible rfl
                          rotate_left
                          · simp only [Act.put, List.setIfInBounds_toArray, List.set_cons_zero, List.set_cons_succ, i64_w, i32_w]
                            rfl
                          refine pure_ (i := 4) (N := some 84) (v := ?_) (a' := ?_) #[true, true, true, false, true, false, false, false, false, false, false, false] rfl rfl (any_of HT_.out (by kernel_rfl)) (fun _ _ _ h => h) (Or.inl ⟨by rfl, ?_⟩) ?_ ?_
                          rotate_left
                          · intro w'
                            go_simp
                            with_reducible rfl
                          rotate_left
                          · simp only [Act.put, List.setIfInBounds_toArray, List.set_cons_zero, List.set_cons_succ, i64_w, i32_w]
                            rfl
                          refine pure_ (i := 5) (N := some 85) (v := ?_) (a' := ?_) #[true, true, true, false, true, true, false, false, false, false, false, false] rfl rfl (any_of HT_.out (by kernel_rfl)) (fun _ _ _ h => h) (Or.inl ⟨by rfl, ?_⟩) ?_ ?_
                          rotate_left
                          · intro w'
                            go_simp
                            with_reducible rfl
                          rotate_left
                          · simp only [Act.put, List.setIfInBounds_toArray, List.set_cons_zero, List.set_cons_succ, i64_w, i32_w]
                            rfl
                          refine pure_ (i := 6) (N := some 86) (v := ?_) (a' := ?_) #[true, true, true, false, true, true, true, false, false, false, false, false] rfl rfl (any_of HT_.out (by kernel_rfl)) (fun _ _ _ h => h) (Or.inl ⟨by rfl, ?_⟩) ?_ ?_
                          rotate_left
                          · intro w'
                            go_simp
                            with_reducible rfl
                          rotate_left
                          · simp only [Act.put, List.setIfInBounds_toArray, List.set_cons_zero, List.set_cons_succ, i64_w, i32_w]
                            rfl
                          refine take_ (i := 3) (N := some 83) (v := ?_) (a' := ?_) #[true, true, true, true, true, true, true, false, false, false, false, false] rfl rfl (take_ofW HT_.out HW_.out (by kernel_rfl)) (fun _ _ _ h => h) (Or.inl ⟨by rfl, ?_⟩) hHeld ?_ ?_
                          rotate_left
                          · rintro w' ⟨s0, s1, s2, s3, s4, s5⟩
                            go_simp
                            with_reducible rfl
                          rotate_left
                          · simp only [Act.put, List.setIfInBounds_toArray, List.set_cons_zero, List.set_cons_succ, i64_w, i32_w]
                            rfl
                          refine take_ (i := 7) (N := some 87) (v := ?_) (a' := ?_) #[true, true, true, true, true, true, true, true, false, false, false, false] rfl rfl (take_ofW HT_.out HW_.out (by kernel_rfl)) (fun _ _ _ h => h) (Or.inl ⟨by rfl, ?_⟩) hHeld ?_ ?_
                          rotate_left
                          · rintro w' ⟨s0, s1, s2, s3, s4, s5⟩
                            go_simp
                            with_reducible rfl
                          rotate_left
                          · simp only [Act.put, List.setIfInBounds_toArray, List.set_cons_zero, List.set_cons_succ, i64_w, i32_w]
                            rfl
                          refine pure_ (i := 8) (N := some 88) (v := ?_) (a' := ?_) #[true, true, true, true, true, true, true, true, true, false, false, false] rfl rfl (any_of HT_.out (by kernel_rfl)) (fun _ _ _ h => h) (Or.inl ⟨by rfl, ?_⟩) ?_ ?_
                          rotate_left
                          · intro w'
                            go_simp
                            with_reducible rfl
                          rotate_left
                          · simp only [Act.put, List.setIfInBounds_toArray, List.set_cons_zero, List.set_cons_succ, i64_w, i32_w]
                            rfl
                          refine pure_ (i := 9) (N := some 89) (v := ?_) (a' := ?_) #[true, true, true, true, true, true, true, true, true, true, false, false] rfl rfl (any_of HT_.out (by kernel_rfl)) (fun _ _ _ h => h) (Or.inl ⟨by rfl, ?_⟩) ?_ ?_
                          rotate_left
                          · intro w'
                            go_simp
                            with_reducible rfl
                          rotate_left
                          · simp only [Act.put, List.setIfInBounds_toArray, List.set_cons_zero, List.set_cons_succ, i64_w, i32_w]
                            rfl
                          refine one_ (i := 10) (N := some 90) #[true, true, true, true, true, true, true, true, true, true, true, false] rfl rfl (one_of HT_.out (by kernel_rfl)) (by decide) (fun K hK => ?_)
                          refine Kd.R_lit_step k27 _ 27 ?hg (N := 90) ?hd (xs := ([(⟨2, s0_0, wrap64 ((wrap64 (s0_3 + 1)) - 1), false, 0, (⟨#[]⟩ : ByteArray)⟩ : S27)] : List (S27))) (inner := [.int .i64 2, .int .i64 s0_0, .int .i64 (wrap64 ((wrap64 (s0_3 + 1)) - 1)), .bool false, .int .i64 0, .string (⟨#[]⟩ : ByteArray)]) (ok := fun _ => True) (okp := fun _ => True) ?hr ?hp (fun _ hk => hk) trivial (Below.refl _ _) (Nat.le_refl _) (by simp) ?_; (case hd => rfl); (case hg => rfl); (case hr => first | (go_simp; done) | (go_simp; rfl)); (case hp => exact (Reps.c6 (show Kd.M k27 _ _ _ (⟨2, s0_0, wrap64 ((wrap64 (s0_3 + 1)) - 1), false, 0, (⟨#[]⟩ : ByteArray)⟩ : S27) [.int .i64 2, .int .i64 s0_0, .int .i64 (wrap64 ((wrap64 (s0_3 + 1)) - 1)), .bool false, .int .i64 0, .string (⟨#[]⟩ : ByteArray)] from (k27_mkM _ _ _ (⟨2, s0_0, wrap64 ((wrap64 (s0_3 + 1)) - 1), false, 0, (⟨#[]⟩ : ByteArray)⟩ : S27) )) (Reps.none _ _)))
                          intro v361 w36 ho37 hb hg_ hnew_
                          clear hg_ hnew_
                          (first | rw [← Ny360.out] at ho37 | (simp only [Int.reduceToNat] at ho37; rw [← Ny360.out] at ho37))
                          have n0_ := Aside0.mk (Kd.R_lower (Kd.R_newB ho37 (g := gb359) (o := .cells #[.int .i64 a1_0, .int .i64 a1_1, .int .i64 a1_2, .bool true, .int .i64 a1_4, .string a1_5] 27 (0, 0)) (by (with_reducible repeat (first | refine blk_drewN ?_ _ | refine blk_drew ?_ | refine blk_alloc ?_ _)); exact BK359.out)) (keep_size (w := w) (g := g) (row := none) (by repeat (first | (with_reducible first | exact HK.out | apply KeepBut.set_ | apply keep_drewN | apply keep_drew | apply keep_alloc | refine keep_far ?_ GW359.out _) | exact HK.out))))
                          have n1_ := Aside0.mk (blk_below (g := gb359) (o := .cells #[.int .i64 a1_0, .int .i64 a1_1, .int .i64 a1_2, .bool true, .int .i64 a1_4, .string a1_5] 27 (0, 0)) (by (with_reducible repeat (first | refine blk_drewN ?_ _ | refine blk_drew ?_ | refine blk_alloc ?_ _)); exact BK359.out) hb)
                          have n2_ := Aside0.mk (IsS73.below (by repeat (first | (with_reducible first | exact HI0.out | apply IsS73.alloc | apply IsS73.drewN | apply IsS73.drew | apply IsS73.set_0 | apply IsS73.set_1 | apply IsS73.set_2 | apply IsS73.set_3 | apply IsS73.set_4 | apply IsS73.set_5 | refine IsS73.far ?_ NB0_359.out _) | exact HI0.out)) hb)
                          have n3_ := Aside0.mk (KeepBut.trans (by repeat (first | (with_reducible first | exact HK.out | apply KeepBut.set_ | apply keep_drewN | apply keep_drew | apply keep_alloc | refine keep_far ?_ GW359.out _) | exact HK.out)) (KeepBut.of_below hb g none) (.inl rfl))
                          have n4_ := Aside0.mk (below_step (by repeat (first | (with_reducible first | exact HB.out | apply below_alloc | apply pw_below_drewN | apply below_drew1 | refine below_set ?_ (IsS73.ge HI0.out) | refine below_set ?_ GE359.out) | exact HB.out)) hb)
                          clear BK359
                          clear HI0
                          clear HK
                          clear HB
                          have HO362 := n0_
                          have BK359 := n1_
                          have HI0 := n2_
                          have HK := n3_
                          have HB := n4_
                          clear n0_ n1_ n2_ n3_ n4_
                          clear hb ho37
                          refine hK.out _ _ ⟨(blk_cell (Aside0.mk HI0.out.1).out 0).trans rfl, (blk_cell (Aside0.mk HI0.out.1).out 1).trans rfl, (blk_cell (Aside0.mk HI0.out.1).out 2).trans rfl, (blk_cell (Aside0.mk HI0.out.1).out 3).trans rfl, (blk_cell (Aside0.mk HI0.out.1).out 4).trans rfl, (blk_cell (Aside0.mk HI0.out.1).out 5).trans rfl⟩ (fun hHeld => ?_)
                          clear hK K
                          refine norm_ (a' := ?_) ?_ ?_
                          rotate_left
                          · show Act.put _ (some 90) _ = _
                            simp only [Act.put, List.setIfInBounds_toArray, List.set_cons_zero, List.set_cons_succ, i64_w, i32_w]
                            rfl
                          refine pure_ (i := 11) (N := some 6) (v := ?_) (a' := ?_) #[true, true, true, true, true, true, true, true, true, true, true, true] rfl rfl (any_of HT_.out (by kernel_rfl)) (fun _ _ _ h => h) (Or.inl ⟨by rfl, ?_⟩) ?_ ?_
                          rotate_left
                          · intro w'
                            go_simp
                            with_reducible rfl
                          rotate_left
                          · simp only [Act.put, List.setIfInBounds_toArray, List.set_cons_zero, List.set_cons_succ, i64_w, i32_w]
                            rfl
                          refine done_ (done_of HT_.out (by kernel_rfl)) ?_
                          try go_wp2
                          go_ret
                          exact ⟨_, by first | rfl | (simp [errW_none, errW_some] <;> rfl) | (simp [*, errW_none, errW_some] <;> rfl), by (with_reducible repeat (first | apply Kd.R_alloc | apply Kd.R_drewN | apply Kd.R_drew)); exact Kd.R_mono HO362.out (fun _ hk => trivial), by repeat (first | (with_reducible first | exact HI0.out | apply IsS73.alloc | apply IsS73.drewN | apply IsS73.drew | apply IsS73.set_0 | apply IsS73.set_1 | apply IsS73.set_2 | apply IsS73.set_3 | apply IsS73.set_4 | apply IsS73.set_5 | refine IsS73.far ?_ NB0_359.out _) | exact HI0.out), by repeat (first | (with_reducible first | exact HB.out | apply below_alloc | apply pw_below_drewN | apply below_drew1 | refine below_set ?_ (IsS73.ge HI0.out) | refine below_set ?_ GE359.out) | exact HB.out), by repeat (first | (with_reducible first | exact HK.out | apply KeepBut.set_ | apply keep_drewN | apply keep_drew | apply keep_alloc | refine keep_far ?_ GW359.out _) | exact HK.out)⟩
                        · replace c24 := Bool.eq_false_iff.mpr c24
                          subst c24
                          have H1 : (some ((([(⟨2, s0_0, wrap64 ((wrap64 (s0_3 + 1)) - 1), false, 0, (⟨#[]⟩ : ByteArray)⟩ : S27)] : List (S27))), s0_0, s0_1, 1, wrap64 (s0_3 + 1), s0_4 ++ a1_5, wrap64 (a2 + s0_1))) = some (r1, r2, r3, r4, r5, r6, r7) := by rw [if_neg (show ¬ (false = true) by decide)] at H; exact H
                          clear H
                          have H := H1
                          clear H1
                          obtain ⟨y363, hy363⟩ : ∃ y_ : List (S27), y_ = (([(⟨2, s0_0, wrap64 ((wrap64 (s0_3 + 1)) - 1), false, 0, (⟨#[]⟩ : ByteArray)⟩ : S27)] : List (S27))) := ⟨_, rfl⟩
                          replace H : (some (y363, s0_0, s0_1, 1, wrap64 (s0_3 + 1), s0_4 ++ a1_5, wrap64 (a2 + s0_1))) = some (r1, r2, r3, r4, r5, r6, r7) := by first | (rw [hy363]; with_reducible exact H) | (have H2_ := (Option.bind_some _ _).symm.trans H; rw [hy363]; with_reducible exact H2_) | (have H2_ := (Option.bind_some _ _).symm.trans H; with_reducible exact H2_) | with_reducible exact H | (rw [hy363]; exact H) | exact H
                          have Ny363 := Aside0.mk hy363
                          clear hy363
                          simp only [Option.some.injEq, Prod.mk.injEq] at H
                          obtain ⟨rfl, rfl, rfl, rfl, rfl, rfl, rfl⟩ := H
                          have hnb38 := NB359_0.out
                          have hnc38 := NB0_359.out
                          have hcz39_0 : wc.cell? ⟨gb359, 0, none⟩ = some (.int .i64 a1_0) := (blk_cell BK359.out 0).trans rfl
                          have hcz39_1 : wc.cell? ⟨gb359, 1, none⟩ = some (.int .i64 a1_1) := (blk_cell BK359.out 1).trans rfl
                          have hcz39_2 : wc.cell? ⟨gb359, 2, none⟩ = some (.int .i64 a1_2) := (blk_cell BK359.out 2).trans rfl
                          have hcz39_3 : wc.cell? ⟨gb359, 3, none⟩ = some (.bool false) := (blk_cell BK359.out 3).trans rfl
                          have hcz39_4 : wc.cell? ⟨gb359, 4, none⟩ = some (.int .i64 a1_4) := (blk_cell BK359.out 4).trans rfl
                          have hcz39_5 : wc.cell? ⟨gb359, 5, none⟩ = some (.string a1_5) := (blk_cell BK359.out 5).trans rfl
                          have hfz39_0 := blk_frozen BK359.out 0
                          have hfz39_1 := blk_frozen BK359.out 1
                          have hfz39_2 := blk_frozen BK359.out 2
                          have hfz39_3 := blk_frozen BK359.out 3
                          have hfz39_4 := blk_frozen BK359.out 4
                          have hfz39_5 := blk_frozen BK359.out 5
                          obtain ⟨HGz40, hgz40⟩ := HI0.out
                          have hcz40_0 := cellS73_0 HGz40
                          have hcz40_1 := cellS73_1 HGz40
                          have hcz40_2 := cellS73_2 HGz40
                          have hcz40_3 := cellS73_3 HGz40
                          have hcz40_4 := cellS73_4 HGz40
                          have hcz40_5 := cellS73_5 HGz40
                          have hfz40_0 := blk_frozen HGz40 0
                          have hfz40_1 := blk_frozen HGz40 1
                          have hfz40_2 := blk_frozen HGz40 2
                          have hfz40_3 := blk_frozen HGz40 3
                          have hfz40_4 := blk_frozen HGz40 4
                          have hfz40_5 := blk_frozen HGz40 5
                          clear HGz40 hgz40
                          try go_wp2
                          have n0_ := Aside0.mk (blk_drew BK359.out)
                          have n1_ := Aside0.mk (IsS73.drew HI0.out)
                          have n2_ := Aside0.mk (keep_drew HK.out)
                          have n3_ := Aside0.mk (below_drew1 HB.out)
                          clear BK359
                          clear HI0
                          clear HK
                          clear HB
                          have BK359 := n0_
                          have HI0 := n1_
                          have HK := n2_
                          have HB := n3_
                          clear n0_ n1_ n2_ n3_
                          refine start_ (n := 7) (S := fun w' => w'.cell? ⟨gb359, 0, none⟩ = some (.int .i64 a1_0) ∧ w'.cell? ⟨gb359, 1, none⟩ = some (.int .i64 a1_1) ∧ w'.cell? ⟨gb359, 2, none⟩ = some (.int .i64 a1_2) ∧ w'.cell? ⟨gb359, 3, none⟩ = some (.bool false) ∧ w'.cell? ⟨gb359, 4, none⟩ = some (.int .i64 a1_4) ∧ w'.cell? ⟨gb359, 5, none⟩ = some (.string a1_5) ∧ w'.cell? ⟨g, 0, none⟩ = some (.int .i64 s0_0) ∧ w'.cell? ⟨g, 1, none⟩ = some (.int .i64 s0_1) ∧ w'.cell? ⟨g, 2, none⟩ = some (.int .i64 x1002_16) ∧ w'.cell? ⟨g, 3, none⟩ = some (.int .i64 s0_3) ∧ w'.cell? ⟨g, 4, none⟩ = some (.string s0_4) ∧ w'.cell? ⟨g, 5, none⟩ = some (.int .i64 s0_5)) (ds := []) #[false, false, false, false, false, false, false] (by kernel_rfl) rfl rfl ⟨(blk_cell BK359.out 0).trans rfl, (blk_cell BK359.out 1).trans rfl, (blk_cell BK359.out 2).trans rfl, (blk_cell BK359.out 3).trans rfl, (blk_cell BK359.out 4).trans rfl, (blk_cell BK359.out 5).trans rfl, (blk_cell (Aside0.mk HI0.out.1).out 0).trans rfl, (blk_cell (Aside0.mk HI0.out.1).out 1).trans rfl, (blk_cell (Aside0.mk HI0.out.1).out 2).trans rfl, (blk_cell (Aside0.mk HI0.out.1).out 3).trans rfl, (blk_cell (Aside0.mk HI0.out.1).out 4).trans rfl, (blk_cell (Aside0.mk HI0.out.1).out 5).trans rfl⟩ (fun hHeld => ?_)
                          generalize wc.drew = w41 at BK359 HI0 HK HB hHeld ⊢
                          refine pure_ (i := 0) (N := some 42) (v := ?_) (a' := ?_) #[true, false, false, false, false, false, false] rfl rfl (by kernel_rfl) (fun _ _ _ h => h) (Or.inl ⟨by rfl, ?_⟩) ?_ ?_
                          rotate_left
                          · intro w'
                            go_simp
                            with_reducible rfl
                          rotate_left
                          · simp only [Act.put, List.setIfInBounds_toArray, List.set_cons_zero, List.set_cons_succ, i64_w, i32_w]
                            rfl
                          refine pure_ (i := 2) (N := some 44) (v := ?_) (a' := ?_) #[true, false, true, false, false, false, false] rfl rfl (by kernel_rfl) (fun _ _ _ h => h) (Or.inl ⟨by rfl, ?_⟩) ?_ ?_
                          rotate_left
                          · intro w'
                            go_simp
                            with_reducible rfl
                          rotate_left
                          · simp only [Act.put, List.setIfInBounds_toArray, List.set_cons_zero, List.set_cons_succ, i64_w, i32_w]
                            rfl
                          refine pure_ (i := 3) (N := some 45) (v := ?_) (a' := ?_) #[true, false, true, true, false, false, false] rfl rfl (by kernel_rfl) (fun _ _ _ h => h) (Or.inl ⟨by rfl, ?_⟩) ?_ ?_
                          rotate_left
                          · intro w'
                            go_simp
                            with_reducible rfl
                          rotate_left
                          · simp only [Act.put, List.setIfInBounds_toArray, List.set_cons_zero, List.set_cons_succ, i64_w, i32_w]
                            rfl
                          refine pure_ (i := 4) (N := some 46) (v := ?_) (a' := ?_) #[true, false, true, true, true, false, false] rfl rfl (by kernel_rfl) (fun _ _ _ h => h) (Or.inl ⟨by rfl, ?_⟩) ?_ ?_
                          rotate_left
                          · intro w'
                            go_simp
                            with_reducible rfl
                          rotate_left
                          · simp only [Act.put, List.setIfInBounds_toArray, List.set_cons_zero, List.set_cons_succ, i64_w, i32_w]
                            rfl
                          refine take_ (i := 1) (N := some 43) (v := ?_) (a' := ?_) #[true, true, true, true, true, false, false] rfl rfl (by kernel_rfl) (fun _ _ _ h => h) (Or.inl ⟨by rfl, ?_⟩) hHeld ?_ ?_
                          rotate_left
                          · rintro w' ⟨s0, s1, s2, s3, s4, s5, s6, s7, s8, s9, s10, s11⟩
                            go_simp
                            with_reducible rfl
                          rotate_left
                          · simp only [Act.put, List.setIfInBounds_toArray, List.set_cons_zero, List.set_cons_succ, i64_w, i32_w]
                            rfl
                          refine take_ (i := 5) (N := some 47) (v := ?_) (a' := ?_) #[true, true, true, true, true, true, false] rfl rfl (by kernel_rfl) (fun _ _ _ h => h) (Or.inl ⟨by rfl, ?_⟩) hHeld ?_ ?_
                          rotate_left
                          · rintro w' ⟨s0, s1, s2, s3, s4, s5, s6, s7, s8, s9, s10, s11⟩
                            go_simp
                            with_reducible rfl
                          rotate_left
                          · simp only [Act.put, List.setIfInBounds_toArray, List.set_cons_zero, List.set_cons_succ, i64_w, i32_w]
                            rfl
                          refine pure_ (i := 6) (N := some 48) (v := ?_) (a' := ?_) #[true, true, true, true, true, true, true] rfl rfl (by kernel_rfl) (fun _ _ _ h => h) (Or.inl ⟨by rfl, ?_⟩) ?_ ?_
                          rotate_left
                          · intro w'
                            go_simp
                            with_reducible rfl
                          rotate_left
                          · simp only [Act.put, List.setIfInBounds_toArray, List.set_cons_zero, List.set_cons_succ, i64_w, i32_w]
                            rfl
                          refine done_ (by kernel_rfl) ?_
                          obtain ⟨HGz42, hgz42⟩ := HI0.out
                          have hcz42_0 := cellS73_0 HGz42
                          have hcz42_1 := cellS73_1 HGz42
                          have hcz42_2 := cellS73_2 HGz42
                          have hcz42_3 := cellS73_3 HGz42
                          have hcz42_4 := cellS73_4 HGz42
                          have hcz42_5 := cellS73_5 HGz42
                          have hfz42_0 := blk_frozen HGz42 0
                          have hfz42_1 := blk_frozen HGz42 1
                          have hfz42_2 := blk_frozen HGz42 2
                          have hfz42_3 := blk_frozen HGz42 3
                          have hfz42_4 := blk_frozen HGz42 4
                          have hfz42_5 := blk_frozen HGz42 5
                          clear HGz42 hgz42
                          try go_wp2
                          have n0_ : Aside0 ((w41.setCell ⟨g, 3, none⟩ (.int .i64 (wrap64 (s0_3 + 1)))).heap[gb359]? = some (.cells #[.int .i64 a1_0, .int .i64 a1_1, .int .i64 a1_2, .bool false, .int .i64 a1_4, .string a1_5] 27 (0, 0))) := ⟨by (with_reducible repeat (first | refine blk_drewN ?_ _ | refine blk_drew ?_ | refine blk_alloc ?_ _)); refine blk_far ?_ NB359_0.out _; (with_reducible repeat (first | refine blk_drewN ?_ _ | refine blk_drew ?_ | refine blk_alloc ?_ _)); exact BK359.out⟩
                          have n1_ : Aside0 (IsS73 w0 (w41.setCell ⟨g, 3, none⟩ (.int .i64 (wrap64 (s0_3 + 1)))) g s0_0 s0_1 x1002_16 (wrap64 (s0_3 + 1)) s0_4 s0_5) := ⟨by repeat (first | (with_reducible first | exact HI0.out | apply IsS73.alloc | apply IsS73.drewN | apply IsS73.drew | apply IsS73.set_0 | apply IsS73.set_1 | apply IsS73.set_2 | apply IsS73.set_3 | apply IsS73.set_4 | apply IsS73.set_5 | refine IsS73.far ?_ NB0_359.out _) | exact HI0.out)⟩
                          have n2_ : Aside0 (KeepBut w (w41.setCell ⟨g, 3, none⟩ (.int .i64 (wrap64 (s0_3 + 1)))) g none) := ⟨by repeat (first | (with_reducible first | exact HK.out | apply KeepBut.set_ | apply keep_drewN | apply keep_drew | apply keep_alloc | refine keep_far ?_ GW359.out _) | exact HK.out)⟩
                          have n3_ : Aside0 (Below w0.heap.size w0 (w41.setCell ⟨g, 3, none⟩ (.int .i64 (wrap64 (s0_3 + 1))))) := ⟨by repeat (first | (with_reducible first | exact HB.out | apply below_alloc | apply pw_below_drewN | apply below_drew1 | refine below_set ?_ (IsS73.ge HI0.out) | refine below_set ?_ GE359.out) | exact HB.out)⟩
                          (try clear BK359)
                          (try clear HI0)
                          (try clear HK)
                          (try clear HB)
                          generalize (w41.setCell ⟨g, 3, none⟩ (.int .i64 (wrap64 (s0_3 + 1)))) = w43 at n0_ n1_ n2_ n3_ ⊢
                          have BK359 := n0_
                          have HI0 := n1_
                          have HK := n2_
                          have HB := n3_
                          clear n0_ n1_ n2_ n3_
                          have n0_ := Aside0.mk (blk_drew BK359.out)
                          have n1_ := Aside0.mk (IsS73.drew HI0.out)
                          have n2_ := Aside0.mk (keep_drew HK.out)
                          have n3_ := Aside0.mk (below_drew1 HB.out)
                          clear BK359
                          clear HI0
                          clear HK
                          clear HB
                          have BK359 := n0_
                          have HI0 := n1_
                          have HK := n2_
                          have HB := n3_
                          clear n0_ n1_ n2_ n3_
                          refine start_ (n := 10) (S := fun w' => w'.cell? ⟨g, 0, none⟩ = some (.int .i64 s0_0) ∧ w'.cell? ⟨g, 1, none⟩ = some (.int .i64 s0_1) ∧ w'.cell? ⟨g, 2, none⟩ = some (.int .i64 x1002_16) ∧ w'.cell? ⟨g, 3, none⟩ = some (.int .i64 (wrap64 (s0_3 + 1))) ∧ w'.cell? ⟨g, 4, none⟩ = some (.string s0_4) ∧ w'.cell? ⟨g, 5, none⟩ = some (.int .i64 s0_5) ∧ w'.cell? ⟨gb359, 0, none⟩ = some (.int .i64 a1_0) ∧ w'.cell? ⟨gb359, 1, none⟩ = some (.int .i64 a1_1) ∧ w'.cell? ⟨gb359, 2, none⟩ = some (.int .i64 a1_2) ∧ w'.cell? ⟨gb359, 3, none⟩ = some (.bool false) ∧ w'.cell? ⟨gb359, 4, none⟩ = some (.int .i64 a1_4) ∧ w'.cell? ⟨gb359, 5, none⟩ = some (.string a1_5)) (ds := [9]) #[false, false, false, false, false, false, false, false, false, false] (by kernel_rfl) rfl rfl ⟨(blk_cell (Aside0.mk HI0.out.1).out 0).trans rfl, (blk_cell (Aside0.mk HI0.out.1).out 1).trans rfl, (blk_cell (Aside0.mk HI0.out.1).out 2).trans rfl, (blk_cell (Aside0.mk HI0.out.1).out 3).trans rfl, (blk_cell (Aside0.mk HI0.out.1).out 4).trans rfl, (blk_cell (Aside0.mk HI0.out.1).out 5).trans rfl, (blk_cell BK359.out 0).trans rfl, (blk_cell BK359.out 1).trans rfl, (blk_cell BK359.out 2).trans rfl, (blk_cell BK359.out 3).trans rfl, (blk_cell BK359.out 4).trans rfl, (blk_cell BK359.out 5).trans rfl⟩ (fun hHeld => ?_); refine with_tabW plenumref49_Receiver_Handle.tab10 plenumref49_Receiver_Handle.bits10 (fun HT_ HW_ => ?_)
                          generalize w43.drew = w44 at BK359 HI0 HK HB hHeld ⊢
                          have hfz4_ := blk_frozen HI0.out.1 4
                          have hcz4_ := (blk_cell HI0.out.1 4).trans rfl
                          refine pure_ (i := 0) (N := some 56) (v := ?_) (a' := ?_) #[true, false, false, false, false, false, false, false, false, false] rfl rfl (any_of HT_.out (by kernel_rfl)) (fun _ _ _ h => h) (Or.inl ⟨by rfl, ?_⟩) ?_ ?_
                          rotate_left
                          · intro w'
                            go_simp
                            with_reducible rfl
                          rotate_left
                          · simp only [Act.put, List.setIfInBounds_toArray, List.set_cons_zero, List.set_cons_succ, i64_w, i32_w]
                            rfl
                          refine pure_ (i := 1) (N := some 57) (v := ?_) (a' := ?_) #[true, true, false, false, false, false, false, false, false, false] rfl rfl (any_of HT_.out (by kernel_rfl)) (fun _ _ _ h => h) (Or.inl ⟨by rfl, ?_⟩) ?_ ?_
                          rotate_left
                          · intro w'
                            go_simp
                            with_reducible rfl
                          rotate_left
                          · simp only [Act.put, List.setIfInBounds_toArray, List.set_cons_zero, List.set_cons_succ, i64_w, i32_w]
                            rfl
                          refine pure_ (i := 2) (N := some 58) (v := ?_) (a' := ?_) #[true, true, true, false, false, false, false, false, false, false] rfl rfl (any_of HT_.out (by kernel_rfl)) (fun _ _ _ h => h) (Or.inl ⟨by rfl, ?_⟩) ?_ ?_
                          rotate_left
                          · intro w'
                            go_simp
                            with_reducible rfl
                          rotate_left
                          · simp only [Act.put, List.setIfInBounds_toArray, List.set_cons_zero, List.set_cons_succ, i64_w, i32_w]
                            rfl
                          refine pure_ (i := 4) (N := some 60) (v := ?_) (a' := ?_) #[true, true, true, false, true, false, false, false, false, false] rfl rfl (any_of HT_.out (by kernel_rfl)) (fun _ _ _ h => h) (Or.inl ⟨by rfl, ?_⟩) ?_ ?_
                          rotate_left
                          · intro w'
                            go_simp
                            with_reducible rfl
                          rotate_left
                          · simp only [Act.put, List.setIfInBounds_toArray, List.set_cons_zero, List.set_cons_succ, i64_w, i32_w]
                            rfl
                          refine take_ (i := 3) (N := some 59) (v := ?_) (a' := ?_) #[true, true, true, true, true, false, false, false, false, false] rfl rfl (take_ofW HT_.out HW_.out (by kernel_rfl)) (fun _ _ _ h => h) (Or.inl ⟨by rfl, ?_⟩) hHeld ?_ ?_
                          rotate_left
                          · rintro w' ⟨s0, s1, s2, s3, s4, s5, s6, s7, s8, s9, s10, s11⟩
                            go_simp
                            with_reducible rfl
                          rotate_left
                          · simp only [Act.put, List.setIfInBounds_toArray, List.set_cons_zero, List.set_cons_succ, i64_w, i32_w]
                            rfl
                          refine take_ (i := 5) (N := some 61) (v := ?_) (a' := ?_) #[true, true, true, true, true, true, false, false, false, false] rfl rfl (take_ofW HT_.out HW_.out (by kernel_rfl)) (fun _ _ _ h => h) (Or.inl ⟨by rfl, ?_⟩) hHeld ?_ ?_
                          rotate_left
                          · rintro w' ⟨s0, s1, s2, s3, s4, s5, s6, s7, s8, s9, s10, s11⟩
                            go_simp
                            with_reducible rfl
                          rotate_left
                          · simp only [Act.put, List.setIfInBounds_toArray, List.set_cons_zero, List.set_cons_succ, i64_w, i32_w]
                            rfl
                          refine pure_ (i := 6) (N := some 62) (v := ?_) (a' := ?_) #[true, true, true, true, true, true, true, false, false, false] rfl rfl (any_of HT_.out (by kernel_rfl)) (fun _ _ _ h => h) (Or.inl ⟨by rfl, ?_⟩) ?_ ?_
                          rotate_left
                          · intro w'
                            go_simp
                            with_reducible rfl
                          rotate_left
                          · simp only [Act.put, List.setIfInBounds_toArray, List.set_cons_zero, List.set_cons_succ, i64_w, i32_w]
                            rfl
                          refine pure_ (i := 7) (N := some 63) (v := ?_) (a' := ?_) #[true, true, true, true, true, true, true, true, false, false] rfl rfl (any_of HT_.out (by kernel_rfl)) (fun _ _ _ h => h) (Or.inl ⟨by rfl, ?_⟩) ?_ ?_
                          rotate_left
                          · intro w'
                            go_simp
                            with_reducible rfl
                          rotate_left
                          · simp only [Act.put, List.setIfInBounds_toArray, List.set_cons_zero, List.set_cons_succ, i64_w, i32_w]
                            rfl
                          refine pure_ (i := 8) (N := some 64) (v := ?_) (a' := ?_) #[true, true, true, true, true, true, true, true, true, false] rfl rfl (any_of HT_.out (by kernel_rfl)) (fun _ _ _ h => h) (Or.inl ⟨by rfl, ?_⟩) ?_ ?_
                          rotate_left
                          · intro w'
                            go_simp
                            with_reducible rfl
                          rotate_left
                          · simp only [Act.put, List.setIfInBounds_toArray, List.set_cons_zero, List.set_cons_succ, i64_w, i32_w]
                            rfl
                          refine last_ (i := 9) (N := none) #[true, true, true, true, true, true, true, true, true, true] rfl rfl (one_of HT_.out (by kernel_rfl)) (by decide) (fun K hK => ?_)
                          refine skip_ (w1 := ?_) (by rfl) rfl ?_ ?_
                          rotate_left
                          · go_simp
                            rfl
                          refine hK.out _ _ ?_
                          clear hK K
                          refine done_ (done_of HT_.out (by kernel_rfl)) ?_
                          have hcz45_0 : w44.cell? ⟨gb359, 0, none⟩ = some (.int .i64 a1_0) := (blk_cell BK359.out 0).trans rfl
                          have hcz45_1 : w44.cell? ⟨gb359, 1, none⟩ = some (.int .i64 a1_1) := (blk_cell BK359.out 1).trans rfl
                          have hcz45_2 : w44.cell? ⟨gb359, 2, none⟩ = some (.int .i64 a1_2) := (blk_cell BK359.out 2).trans rfl
                          have hcz45_3 : w44.cell? ⟨gb359, 3, none⟩ = some (.bool false) := (blk_cell BK359.out 3).trans rfl
                          have hcz45_4 : w44.cell? ⟨gb359, 4, none⟩ = some (.int .i64 a1_4) := (blk_cell BK359.out 4).trans rfl
                          have hcz45_5 : w44.cell? ⟨gb359, 5, none⟩ = some (.string a1_5) := (blk_cell BK359.out 5).trans rfl
                          have hfz45_0 := blk_frozen BK359.out 0
                          have hfz45_1 := blk_frozen BK359.out 1
                          have hfz45_2 := blk_frozen BK359.out 2
                          have hfz45_3 := blk_frozen BK359.out 3
                          have hfz45_4 := blk_frozen BK359.out 4
                          have hfz45_5 := blk_frozen BK359.out 5
                          obtain ⟨HGz46, hgz46⟩ := HI0.out
                          have hcz46_0 := cellS73_0 HGz46
                          have hcz46_1 := cellS73_1 HGz46
                          have hcz46_2 := cellS73_2 HGz46
                          have hcz46_3 := cellS73_3 HGz46
                          have hcz46_4 := cellS73_4 HGz46
                          have hcz46_5 := cellS73_5 HGz46
                          have hfz46_0 := blk_frozen HGz46 0
                          have hfz46_1 := blk_frozen HGz46 1
                          have hfz46_2 := blk_frozen HGz46 2
                          have hfz46_3 := blk_frozen HGz46 3
                          have hfz46_4 := blk_frozen HGz46 4
                          have hfz46_5 := blk_frozen HGz46 5
                          clear HGz46 hgz46
                          try go_wp2
                          have n0_ : Aside0 ((((w44.setCell ⟨g, 4, none⟩ (.string (s0_4 ++ a1_5))).setCell ⟨g, 2, none⟩ (.int .i64 1)).setCell ⟨g, 5, none⟩ (.int .i64 (wrap64 (a2 + s0_1)))).heap[gb359]? = some (.cells #[.int .i64 a1_0, .int .i64 a1_1, .int .i64 a1_2, .bool false, .int .i64 a1_4, .string a1_5] 27 (0, 0))) := ⟨by (with_reducible repeat (first | refine blk_drewN ?_ _ | refine blk_drew ?_ | refine blk_alloc ?_ _)); refine blk_far ?_ NB359_0.out _; (with_reducible repeat (first | refine blk_drewN ?_ _ | refine blk_drew ?_ | refine blk_alloc ?_ _)); refine blk_far ?_ NB359_0.out _; (with_reducible repeat (first | refine blk_drewN ?_ _ | refine blk_drew ?_ | refine blk_alloc ?_ _)); refine blk_far ?_ NB359_0.out _; (with_reducible repeat (first | refine blk_drewN ?_ _ | refine blk_drew ?_ | refine blk_alloc ?_ _)); exact BK359.out⟩
                          have n1_ : Aside0 (IsS73 w0 (((w44.setCell ⟨g, 4, none⟩ (.string (s0_4 ++ a1_5))).setCell ⟨g, 2, none⟩ (.int .i64 1)).setCell ⟨g, 5, none⟩ (.int .i64 (wrap64 (a2 + s0_1)))) g s0_0 s0_1 1 (wrap64 (s0_3 + 1)) (s0_4 ++ a1_5) (wrap64 (a2 + s0_1))) := ⟨by repeat (first | (with_reducible first | exact HI0.out | apply IsS73.alloc | apply IsS73.drewN | apply IsS73.drew | apply IsS73.set_0 | apply IsS73.set_1 | apply IsS73.set_2 | apply IsS73.set_3 | apply IsS73.set_4 | apply IsS73.set_5 | refine IsS73.far ?_ NB0_359.out _) | exact HI0.out)⟩
                          have n2_ : Aside0 (KeepBut w (((w44.setCell ⟨g, 4, none⟩ (.string (s0_4 ++ a1_5))).setCell ⟨g, 2, none⟩ (.int .i64 1)).setCell ⟨g, 5, none⟩ (.int .i64 (wrap64 (a2 + s0_1)))) g none) := ⟨by repeat (first | (with_reducible first | exact HK.out | apply KeepBut.set_ | apply keep_drewN | apply keep_drew | apply keep_alloc | refine keep_far ?_ GW359.out _) | exact HK.out)⟩
                          have n3_ : Aside0 (Below w0.heap.size w0 (((w44.setCell ⟨g, 4, none⟩ (.string (s0_4 ++ a1_5))).setCell ⟨g, 2, none⟩ (.int .i64 1)).setCell ⟨g, 5, none⟩ (.int .i64 (wrap64 (a2 + s0_1))))) := ⟨by repeat (first | (with_reducible first | exact HB.out | apply below_alloc | apply pw_below_drewN | apply below_drew1 | refine below_set ?_ (IsS73.ge HI0.out) | refine below_set ?_ GE359.out) | exact HB.out)⟩
                          (try clear BK359)
                          (try clear HI0)
                          (try clear HK)
                          (try clear HB)
                          generalize (((w44.setCell ⟨g, 4, none⟩ (.string (s0_4 ++ a1_5))).setCell ⟨g, 2, none⟩ (.int .i64 1)).setCell ⟨g, 5, none⟩ (.int .i64 (wrap64 (a2 + s0_1)))) = w47 at n0_ n1_ n2_ n3_ ⊢
                          have BK359 := n0_
                          have HI0 := n1_
                          have HK := n2_
                          have HB := n3_
                          clear n0_ n1_ n2_ n3_
                          have n0_ := Aside0.mk (blk_drew BK359.out)
                          have n1_ := Aside0.mk (IsS73.drew HI0.out)
                          have n2_ := Aside0.mk (keep_drew HK.out)
                          have n3_ := Aside0.mk (below_drew1 HB.out)
                          clear BK359
                          clear HI0
                          clear HK
                          clear HB
                          have BK359 := n0_
                          have HI0 := n1_
                          have HK := n2_
                          have HB := n3_
                          clear n0_ n1_ n2_ n3_
                          refine start_ (n := 12) (S := fun w' => w'.cell? ⟨g, 0, none⟩ = some (.int .i64 s0_0) ∧ w'.cell? ⟨g, 1, none⟩ = some (.int .i64 s0_1) ∧ w'.cell? ⟨g, 2, none⟩ = some (.int .i64 1) ∧ w'.cell? ⟨g, 3, none⟩ = some (.int .i64 (wrap64 (s0_3 + 1))) ∧ w'.cell? ⟨g, 4, none⟩ = some (.string (s0_4 ++ a1_5)) ∧ w'.cell? ⟨g, 5, none⟩ = some (.int .i64 (wrap64 (a2 + s0_1)))) (ds := []) #[false, false, false, false, false, false, false, false, false, false, false, false] (by kernel_rfl) rfl rfl ⟨(blk_cell (Aside0.mk HI0.out.1).out 0).trans rfl, (blk_cell (Aside0.mk HI0.out.1).out 1).trans rfl, (blk_cell (Aside0.mk HI0.out.1).out 2).trans rfl, (blk_cell (Aside0.mk HI0.out.1).out 3).trans rfl, (blk_cell (Aside0.mk HI0.out.1).out 4).trans rfl, (blk_cell (Aside0.mk HI0.out.1).out 5).trans rfl⟩ (fun hHeld => ?_); refine with_tabW plenumref49_Receiver_Handle.tab14 plenumref49_Receiver_Handle.bits14 (fun HT_ HW_ => ?_)
                          generalize w47.drew = w48 at BK359 HI0 HK HB hHeld ⊢
                          refine pure_ (i := 0) (N := some 80) (v := ?_) (a' := ?_) #[true, false, false, false, false, false, false, false, false, false, false, false] rfl rfl (any_of HT_.out (by kernel_rfl)) (fun _ _ _ h => h) (Or.inl ⟨by rfl, ?_⟩) ?_ ?_
                          rotate_left
                          · intro w'
                            go_simp
                            with_reducible rfl
                          rotate_left
                          · simp only [Act.put, List.setIfInBounds_toArray, List.set_cons_zero, List.set_cons_succ, i64_w, i32_w]
                            rfl
                          refine pure_ (i := 1) (N := some 81) (v := ?_) (a' := ?_) #[true, true, false, false, false, false, false, false, false, false, false, false] rfl rfl (any_of HT_.out (by kernel_rfl)) (fun _ _ _ h => h) (Or.inl ⟨by rfl, ?_⟩) ?_ ?_
                          rotate_left
                          · intro w'
                            go_simp
                            with_reducible rfl
                          rotate_left
                          · simp only [Act.put, List.setIfInBounds_toArray, List.set_cons_zero, List.set_cons_succ, i64_w, i32_w]
                            rfl
                          refine pure_ (i := 2) (N := some 82) (v := ?_) (a' := ?_) #[true, true, true, false, false, false, false, false, false, false, false, false] rfl rfl (any_of HT_.out (by kernel_rfl)) (fun _ _ _ h => h) (Or.inl ⟨by rfl, ?_⟩) ?_ ?_
                          rotate_left
                          · intro w'
                            go_simp
                            with_reducible rfl
                          rotate_left
                          · simp only [Act.put, List.setIfInBounds_toArray, List.set_cons_zero, List.set_cons_succ, i64_w, i32_w]
                            rfl
                          refine pure_ (i := 4) (N := some 84) (v := ?_) (a' := ?_) #[true, true, true, false, true, false, false, false, false, false, false, false] rfl rfl (any_of HT_.out (by kernel_rfl)) (fun _ _ _ h => h) (Or.inl ⟨by rfl, ?_⟩) ?_ ?_
                          rotate_left
                          · intro w'
                            go_simp
                            with_reducible rfl
                          rotate_left
                          · simp only [Act.put, List.setIfInBounds_toArray, List.set_cons_zero, List.set_cons_succ, i64_w, i32_w]
                            rfl
                          refine pure_ (i := 5) (N := some 85) (v := ?_) (a' := ?_) #[true, true, true, false, true, true, false, false, false, false, false, false] rfl rfl (any_of HT_.out (by kernel_rfl)) (fun _ _ _ h => h) (Or.inl ⟨by rfl, ?_⟩) ?_ ?_
                          rotate_left
                          · intro w'
                            go_simp
                            with_reducible rfl
                          rotate_left
                          · simp only [Act.put, List.setIfInBounds_toArray, List.set_cons_zero, List.set_cons_succ, i64_w, i32_w]
                            rfl
                          refine pure_ (i := 6) (N := some 86) (v := ?_) (a' := ?_) #[true, true, true, false, true, true, true, false, false, false, false, false] rfl rfl (any_of HT_.out (by kernel_rfl)) (fun _ _ _ h => h) (Or.inl ⟨by rfl, ?_⟩) ?_ ?_
                          rotate_left
                          · intro w'
                            go_simp
                            with_reducible rfl
                          rotate_left
                          · simp only [Act.put, List.setIfInBounds_toArray, List.set_cons_zero, List.set_cons_succ, i64_w, i32_w]
                            rfl
                          refine take_ (i := 3) (N := some 83) (v := ?_) (a' := ?_) #[true, true, true, true, true, true, true, false, false, false, false, false] rfl rfl (take_ofW HT_.out HW_.out (by kernel_rfl)) (fun _ _ _ h => h) (Or.inl ⟨by rfl, ?_⟩) hHeld ?_ ?_
                          rotate_left
                          · rintro w' ⟨s0, s1, s2, s3, s4, s5⟩
                            go_simp
                            with_reducible rfl
                          rotate_left
                          · simp only [Act.put, List.setIfInBounds_toArray, List.set_cons_zero, List.set_cons_succ, i64_w, i32_w]
                            rfl
                          refine take_ (i := 7) (N := some 87) (v := ?_) (a' := ?_) #[true, true, true, true, true, true, true, true, false, false, false, false] rfl rfl (take_ofW HT_.out HW_.out (by kernel_rfl)) (fun _ _ _ h => h) (Or.inl ⟨by rfl, ?_⟩) hHeld ?_ ?_
                          rotate_left
                          · rintro w' ⟨s0, s1, s2, s3, s4, s5⟩
                            go_simp
                            with_reducible rfl
                          rotate_left
                          · simp only [Act.put, List.setIfInBounds_toArray, List.set_cons_zero, List.set_cons_succ, i64_w, i32_w]
                            rfl
                          refine pure_ (i := 8) (N := some 88) (v := ?_) (a' := ?_) #[true, true, true, true, true, true, true, true, true, false, false, false] rfl rfl (any_of HT_.out (by kernel_rfl)) (fun _ _ _ h => h) (Or.inl ⟨by rfl, ?_⟩) ?_ ?_
                          rotate_left
                          · intro w'
                            go_simp
                            with_reducible rfl
                          rotate_left
                          · simp only [Act.put, List.setIfInBounds_toArray, List.set_cons_zero, List.set_cons_succ, i64_w, i32_w]
                            rfl
                          refine pure_ (i := 9) (N := some 89) (v := ?_) (a' := ?_) #[true, true, true, true, true, true, true, true, true, true, false, false] rfl rfl (any_of HT_.out (by kernel_rfl)) (fun _ _ _ h => h) (Or.inl ⟨by rfl, ?_⟩) ?_ ?_
                          rotate_left
                          · intro w'
                            go_simp
                            with_reducible rfl
                          rotate_left
                          · simp only [Act.put, List.setIfInBounds_toArray, List.set_cons_zero, List.set_cons_succ, i64_w, i32_w]
                            rfl
                          refine one_ (i := 10) (N := some 90) #[true, true, true, true, true, true, true, true, true, true, true, false] rfl rfl (one_of HT_.out (by kernel_rfl)) (by decide) (fun K hK => ?_)
                          refine Kd.R_lit_step k27 _ 27 ?hg (N := 90) ?hd (xs := ([(⟨2, s0_0, wrap64 ((wrap64 (s0_3 + 1)) - 1), false, 0, (⟨#[]⟩ : ByteArray)⟩ : S27)] : List (S27))) (inner := [.int .i64 2, .int .i64 s0_0, .int .i64 (wrap64 ((wrap64 (s0_3 + 1)) - 1)), .bool false, .int .i64 0, .string (⟨#[]⟩ : ByteArray)]) (ok := fun _ => True) (okp := fun _ => True) ?hr ?hp (fun _ hk => hk) trivial (Below.refl _ _) (Nat.le_refl _) (by simp) ?_; (case hd => rfl); (case hg => rfl); (case hr => first | (go_simp; done) | (go_simp; rfl)); (case hp => exact (Reps.c6 (show Kd.M k27 _ _ _ (⟨2, s0_0, wrap64 ((wrap64 (s0_3 + 1)) - 1), false, 0, (⟨#[]⟩ : ByteArray)⟩ : S27) [.int .i64 2, .int .i64 s0_0, .int .i64 (wrap64 ((wrap64 (s0_3 + 1)) - 1)), .bool false, .int .i64 0, .string (⟨#[]⟩ : ByteArray)] from (k27_mkM _ _ _ (⟨2, s0_0, wrap64 ((wrap64 (s0_3 + 1)) - 1), false, 0, (⟨#[]⟩ : ByteArray)⟩ : S27) )) (Reps.none _ _)))
                          intro v364 w49 ho50 hb hg_ hnew_
                          clear hg_ hnew_
                          (first | rw [← Ny363.out] at ho50 | (simp only [Int.reduceToNat] at ho50; rw [← Ny363.out] at ho50))
                          have n0_ := Aside0.mk (Kd.R_lower (Kd.R_newB ho50 (g := gb359) (o := .cells #[.int .i64 a1_0, .int .i64 a1_1, .int .i64 a1_2, .bool false, .int .i64 a1_4, .string a1_5] 27 (0, 0)) (by (with_reducible repeat (first | refine blk_drewN ?_ _ | refine blk_drew ?_ | refine blk_alloc ?_ _)); exact BK359.out)) (keep_size (w := w) (g := g) (row := none) (by repeat (first | (with_reducible first | exact HK.out | apply KeepBut.set_ | apply keep_drewN | apply keep_drew | apply keep_alloc | refine keep_far ?_ GW359.out _) | exact HK.out))))
                          have n1_ := Aside0.mk (blk_below (g := gb359) (o := .cells #[.int .i64 a1_0, .int .i64 a1_1, .int .i64 a1_2, .bool false, .int .i64 a1_4, .string a1_5] 27 (0, 0)) (by (with_reducible repeat (first | refine blk_drewN ?_ _ | refine blk_drew ?_ | refine blk_alloc ?_ _)); exact BK359.out) hb)
                          have n2_ := Aside0.mk (IsS73.below (by repeat (first | (with_reducible first | exact HI0.out | apply IsS73.alloc | apply IsS73.drewN | apply IsS73.drew | apply IsS73.set_0 | apply IsS73.set_1 | apply IsS73.set_2 | apply IsS73.set_3 | apply IsS73.set_4 | apply IsS73.set_5 | refine IsS73.far ?_ NB0_359.out _) | exact HI0.out)) hb)
                          have n3_ := Aside0.mk (KeepBut.trans (by repeat (first | (with_reducible first | exact HK.out | apply KeepBut.set_ | apply keep_drewN | apply keep_drew | apply keep_alloc | refine keep_far ?_ GW359.out _) | exact HK.out)) (KeepBut.of_below hb g none) (.inl rfl))
                          have n4_ := Aside0.mk (below_step (by repeat (first | (with_reducible first | exact HB.out | apply below_alloc | apply pw_below_drewN | apply below_drew1 | refine below_set ?_ (IsS73.ge HI0.out) | refine below_set ?_ GE359.out) | exact HB.out)) hb)
                          clear BK359
                          clear HI0
                          clear HK
                          clear HB
                          have HO365 := n0_
                          have BK359 := n1_
                          have HI0 := n2_
                          have HK := n3_
                          have HB := n4_
                          clear n0_ n1_ n2_ n3_ n4_
                          clear hb ho50
                          refine hK.out _ _ ⟨(blk_cell (Aside0.mk HI0.out.1).out 0).trans rfl, (blk_cell (Aside0.mk HI0.out.1).out 1).trans rfl, (blk_cell (Aside0.mk HI0.out.1).out 2).trans rfl, (blk_cell (Aside0.mk HI0.out.1).out 3).trans rfl, (blk_cell (Aside0.mk HI0.out.1).out 4).trans rfl, (blk_cell (Aside0.mk HI0.out.1).out 5).trans rfl⟩ (fun hHeld => ?_)
                          clear hK K
                          refine norm_ (a' := ?_) ?_ ?_
                          rotate_left
                          · show Act.put _ (some 90) _ = _
                            simp only [Act.put, List.setIfInBounds_toArray, List.set_cons_zero, List.set_cons_succ, i64_w, i32_w]
                            rfl
                          refine pure_ (i := 11) (N := some 6) (v := ?_) (a' := ?_) #[true, true, true, true, true, true, true, true, true, true, true, true] rfl rfl (any_of HT_.out (by kernel_rfl)) (fun _ _ _ h => h) (Or.inl ⟨by rfl, ?_⟩) ?_ ?_
                          rotate_left
                          · intro w'
                            go_simp
                            with_reducible rfl
                          rotate_left
                          · simp only [Act.put, List.setIfInBounds_toArray, List.set_cons_zero, List.set_cons_succ, i64_w, i32_w]
                            rfl
                          refine done_ (done_of HT_.out (by kernel_rfl)) ?_
                          try go_wp2
                          go_ret
                          exact ⟨_, by first | rfl | (simp [errW_none, errW_some] <;> rfl) | (simp [*, errW_none, errW_some] <;> rfl), by (with_reducible repeat (first | apply Kd.R_alloc | apply Kd.R_drewN | apply Kd.R_drew)); exact Kd.R_mono HO365.out (fun _ hk => trivial), by repeat (first | (with_reducible first | exact HI0.out | apply IsS73.alloc | apply IsS73.drewN | apply IsS73.drew | apply IsS73.set_0 | apply IsS73.set_1 | apply IsS73.set_2 | apply IsS73.set_3 | apply IsS73.set_4 | apply IsS73.set_5 | refine IsS73.far ?_ NB0_359.out _) | exact HI0.out), by repeat (first | (with_reducible first | exact HB.out | apply below_alloc | apply pw_below_drewN | apply below_drew1 | refine below_set ?_ (IsS73.ge HI0.out) | refine below_set ?_ GE359.out) | exact HB.out), by repeat (first | (with_reducible first | exact HK.out | apply KeepBut.set_ | apply keep_drewN | apply keep_drew | apply keep_alloc | refine keep_far ?_ GW359.out _) | exact HK.out)⟩
                      · rw [if_neg c23] at H
                        exact absurd H (by simp)
                    · rw [if_neg c22] at H
                      have c22b0 : (a1_2 == s0_3) = false := beq_eq_false_iff_ne.mpr c22
                      have c22b1 : (a1_2 != s0_3) = true := bne_iff_ne.mpr c22
                      obtain ⟨y366, hy366⟩ : ∃ y_ : List (S27), y_ = (([(⟨2, s0_0, wrap64 (s0_3 - 1), false, 0, (⟨#[]⟩ : ByteArray)⟩ : S27)] : List (S27))) := ⟨_, rfl⟩
                      replace H : (some (y366, s0_0, s0_1, x1002_16, s0_3, s0_4, wrap64 (a2 + s0_1))) = some (r1, r2, r3, r4, r5, r6, r7) := by first | (rw [hy366]; with_reducible exact H) | (have H2_ := (Option.bind_some _ _).symm.trans H; rw [hy366]; with_reducible exact H2_) | (have H2_ := (Option.bind_some _ _).symm.trans H; with_reducible exact H2_) | with_reducible exact H | (rw [hy366]; exact H) | exact H
                      have Ny366 := Aside0.mk hy366
                      clear hy366
                      simp only [Option.some.injEq, Prod.mk.injEq] at H
                      obtain ⟨rfl, rfl, rfl, rfl, rfl, rfl, rfl⟩ := H
                      have hnb51 := NB359_0.out
                      have hnc51 := NB0_359.out
                      have hcz52_0 : wc.cell? ⟨gb359, 0, none⟩ = some (.int .i64 a1_0) := (blk_cell BK359.out 0).trans rfl
                      have hcz52_1 : wc.cell? ⟨gb359, 1, none⟩ = some (.int .i64 a1_1) := (blk_cell BK359.out 1).trans rfl
                      have hcz52_2 : wc.cell? ⟨gb359, 2, none⟩ = some (.int .i64 a1_2) := (blk_cell BK359.out 2).trans rfl
                      have hcz52_3 : wc.cell? ⟨gb359, 3, none⟩ = some (.bool a1_3) := (blk_cell BK359.out 3).trans rfl
                      have hcz52_4 : wc.cell? ⟨gb359, 4, none⟩ = some (.int .i64 a1_4) := (blk_cell BK359.out 4).trans rfl
                      have hcz52_5 : wc.cell? ⟨gb359, 5, none⟩ = some (.string a1_5) := (blk_cell BK359.out 5).trans rfl
                      have hfz52_0 := blk_frozen BK359.out 0
                      have hfz52_1 := blk_frozen BK359.out 1
                      have hfz52_2 := blk_frozen BK359.out 2
                      have hfz52_3 := blk_frozen BK359.out 3
                      have hfz52_4 := blk_frozen BK359.out 4
                      have hfz52_5 := blk_frozen BK359.out 5
                      obtain ⟨HGz53, hgz53⟩ := HI0.out
                      have hcz53_0 := cellS73_0 HGz53
                      have hcz53_1 := cellS73_1 HGz53
                      have hcz53_2 := cellS73_2 HGz53
                      have hcz53_3 := cellS73_3 HGz53
                      have hcz53_4 := cellS73_4 HGz53
                      have hcz53_5 := cellS73_5 HGz53
                      have hfz53_0 := blk_frozen HGz53 0
                      have hfz53_1 := blk_frozen HGz53 1
                      have hfz53_2 := blk_frozen HGz53 2
                      have hfz53_3 := blk_frozen HGz53 3
                      have hfz53_4 := blk_frozen HGz53 4
                      have hfz53_5 := blk_frozen HGz53 5
                      clear HGz53 hgz53
                      try go_wp2
                      have n0_ := Aside0.mk (blk_drew BK359.out)
                      have n1_ := Aside0.mk (IsS73.drew HI0.out)
                      have n2_ := Aside0.mk (keep_drew HK.out)
                      have n3_ := Aside0.mk (below_drew1 HB.out)
                      clear BK359
                      clear HI0
                      clear HK
                      clear HB
                      have BK359 := n0_
                      have HI0 := n1_
                      have HK := n2_
                      have HB := n3_
                      clear n0_ n1_ n2_ n3_
                      refine start_ (n := 7) (S := fun w' => w'.cell? ⟨gb359, 0, none⟩ = some (.int .i64 a1_0) ∧ w'.cell? ⟨gb359, 1, none⟩ = some (.int .i64 a1_1) ∧ w'.cell? ⟨gb359, 2, none⟩ = some (.int .i64 a1_2) ∧ w'.cell? ⟨gb359, 3, none⟩ = some (.bool a1_3) ∧ w'.cell? ⟨gb359, 4, none⟩ = some (.int .i64 a1_4) ∧ w'.cell? ⟨gb359, 5, none⟩ = some (.string a1_5) ∧ w'.cell? ⟨g, 0, none⟩ = some (.int .i64 s0_0) ∧ w'.cell? ⟨g, 1, none⟩ = some (.int .i64 s0_1) ∧ w'.cell? ⟨g, 2, none⟩ = some (.int .i64 x1002_16) ∧ w'.cell? ⟨g, 3, none⟩ = some (.int .i64 s0_3) ∧ w'.cell? ⟨g, 4, none⟩ = some (.string s0_4) ∧ w'.cell? ⟨g, 5, none⟩ = some (.int .i64 s0_5)) (ds := []) #[false, false, false, false, false, false, false] (by kernel_rfl) rfl rfl ⟨(blk_cell BK359.out 0).trans rfl, (blk_cell BK359.out 1).trans rfl, (blk_cell BK359.out 2).trans rfl, (blk_cell BK359.out 3).trans rfl, (blk_cell BK359.out 4).trans rfl, (blk_cell BK359.out 5).trans rfl, (blk_cell (Aside0.mk HI0.out.1).out 0).trans rfl, (blk_cell (Aside0.mk HI0.out.1).out 1).trans rfl, (blk_cell (Aside0.mk HI0.out.1).out 2).trans rfl, (blk_cell (Aside0.mk HI0.out.1).out 3).trans rfl, (blk_cell (Aside0.mk HI0.out.1).out 4).trans rfl, (blk_cell (Aside0.mk HI0.out.1).out 5).trans rfl⟩ (fun hHeld => ?_)
                      generalize wc.drew = w54 at BK359 HI0 HK HB hHeld ⊢
                      refine pure_ (i := 0) (N := some 42) (v := ?_) (a' := ?_) #[true, false, false, false, false, false, false] rfl rfl (by kernel_rfl) (fun _ _ _ h => h) (Or.inl ⟨by rfl, ?_⟩) ?_ ?_
                      rotate_left
                      · intro w'
                        go_simp
                        with_reducible rfl
                      rotate_left
                      · simp only [Act.put, List.setIfInBounds_toArray, List.set_cons_zero, List.set_cons_succ, i64_w, i32_w]
                        rfl
                      refine pure_ (i := 2) (N := some 44) (v := ?_) (a' := ?_) #[true, false, true, false, false, false, false] rfl rfl (by kernel_rfl) (fun _ _ _ h => h) (Or.inl ⟨by rfl, ?_⟩) ?_ ?_
                      rotate_left
                      · intro w'
                        go_simp
                        with_reducible rfl
                      rotate_left
                      · simp only [Act.put, List.setIfInBounds_toArray, List.set_cons_zero, List.set_cons_succ, i64_w, i32_w]
                        rfl
                      refine pure_ (i := 3) (N := some 45) (v := ?_) (a' := ?_) #[true, false, true, true, false, false, false] rfl rfl (by kernel_rfl) (fun _ _ _ h => h) (Or.inl ⟨by rfl, ?_⟩) ?_ ?_
                      rotate_left
                      · intro w'
                        go_simp
                        with_reducible rfl
                      rotate_left
                      · simp only [Act.put, List.setIfInBounds_toArray, List.set_cons_zero, List.set_cons_succ, i64_w, i32_w]
                        rfl
                      refine pure_ (i := 4) (N := some 46) (v := ?_) (a' := ?_) #[true, false, true, true, true, false, false] rfl rfl (by kernel_rfl) (fun _ _ _ h => h) (Or.inl ⟨by rfl, ?_⟩) ?_ ?_
                      rotate_left
                      · intro w'
                        go_simp
                        with_reducible rfl
                      rotate_left
                      · simp only [Act.put, List.setIfInBounds_toArray, List.set_cons_zero, List.set_cons_succ, i64_w, i32_w]
                        rfl
                      refine take_ (i := 1) (N := some 43) (v := ?_) (a' := ?_) #[true, true, true, true, true, false, false] rfl rfl (by kernel_rfl) (fun _ _ _ h => h) (Or.inl ⟨by rfl, ?_⟩) hHeld ?_ ?_
                      rotate_left
                      · rintro w' ⟨s0, s1, s2, s3, s4, s5, s6, s7, s8, s9, s10, s11⟩
                        go_simp
                        with_reducible rfl
                      rotate_left
                      · simp only [Act.put, List.setIfInBounds_toArray, List.set_cons_zero, List.set_cons_succ, i64_w, i32_w]
                        rfl
                      refine take_ (i := 5) (N := some 47) (v := ?_) (a' := ?_) #[true, true, true, true, true, true, false] rfl rfl (by kernel_rfl) (fun _ _ _ h => h) (Or.inl ⟨by rfl, ?_⟩) hHeld ?_ ?_
                      rotate_left
                      · rintro w' ⟨s0, s1, s2, s3, s4, s5, s6, s7, s8, s9, s10, s11⟩
                        go_simp
                        with_reducible rfl
                      rotate_left
                      · simp only [Act.put, List.setIfInBounds_toArray, List.set_cons_zero, List.set_cons_succ, i64_w, i32_w]
                        rfl
                      refine pure_ (i := 6) (N := some 48) (v := ?_) (a' := ?_) #[true, true, true, true, true, true, true] rfl rfl (by kernel_rfl) (fun _ _ _ h => h) (Or.inl ⟨by rfl, ?_⟩) ?_ ?_
                      rotate_left
                      · intro w'
                        go_simp
                        with_reducible rfl
                      rotate_left
                      · simp only [Act.put, List.setIfInBounds_toArray, List.set_cons_zero, List.set_cons_succ, i64_w, i32_w]
                        rfl
                      refine done_ (by kernel_rfl) ?_
                      obtain ⟨HGz55, hgz55⟩ := HI0.out
                      have hcz55_0 := cellS73_0 HGz55
                      have hcz55_1 := cellS73_1 HGz55
                      have hcz55_2 := cellS73_2 HGz55
                      have hcz55_3 := cellS73_3 HGz55
                      have hcz55_4 := cellS73_4 HGz55
                      have hcz55_5 := cellS73_5 HGz55
                      have hfz55_0 := blk_frozen HGz55 0
                      have hfz55_1 := blk_frozen HGz55 1
                      have hfz55_2 := blk_frozen HGz55 2
                      have hfz55_3 := blk_frozen HGz55 3
                      have hfz55_4 := blk_frozen HGz55 4
                      have hfz55_5 := blk_frozen HGz55 5
                      clear HGz55 hgz55
                      try go_wp2
                      have n0_ : Aside0 ((w54.setCell ⟨g, 5, none⟩ (.int .i64 (wrap64 (a2 + s0_1)))).heap[gb359]? = some (.cells #[.int .i64 a1_0, .int .i64 a1_1, .int .i64 a1_2, .bool a1_3, .int .i64 a1_4, .string a1_5] 27 (0, 0))) := ⟨by (with_reducible repeat (first | refine blk_drewN ?_ _ | refine blk_drew ?_ | refine blk_alloc ?_ _)); refine blk_far ?_ NB359_0.out _; (with_reducible repeat (first | refine blk_drewN ?_ _ | refine blk_drew ?_ | refine blk_alloc ?_ _)); exact BK359.out⟩
                      have n1_ : Aside0 (IsS73 w0 (w54.setCell ⟨g, 5, none⟩ (.int .i64 (wrap64 (a2 + s0_1)))) g s0_0 s0_1 x1002_16 s0_3 s0_4 (wrap64 (a2 + s0_1))) := ⟨by repeat (first | (with_reducible first | exact HI0.out | apply IsS73.alloc | apply IsS73.drewN | apply IsS73.drew | apply IsS73.set_0 | apply IsS73.set_1 | apply IsS73.set_2 | apply IsS73.set_3 | apply IsS73.set_4 | apply IsS73.set_5 | refine IsS73.far ?_ NB0_359.out _) | exact HI0.out)⟩
                      have n2_ : Aside0 (KeepBut w (w54.setCell ⟨g, 5, none⟩ (.int .i64 (wrap64 (a2 + s0_1)))) g none) := ⟨by repeat (first | (with_reducible first | exact HK.out | apply KeepBut.set_ | apply keep_drewN | apply keep_drew | apply keep_alloc | refine keep_far ?_ GW359.out _) | exact HK.out)⟩
                      have n3_ : Aside0 (Below w0.heap.size w0 (w54.setCell ⟨g, 5, none⟩ (.int .i64 (wrap64 (a2 + s0_1))))) := ⟨by repeat (first | (with_reducible first | exact HB.out | apply below_alloc | apply pw_below_drewN | apply below_drew1 | refine below_set ?_ (IsS73.ge HI0.out) | refine below_set ?_ GE359.out) | exact HB.out)⟩
                      (try clear BK359)
                      (try clear HI0)
                      (try clear HK)
                      (try clear HB)
                      generalize (w54.setCell ⟨g, 5, none⟩ (.int .i64 (wrap64 (a2 + s0_1)))) = w56 at n0_ n1_ n2_ n3_ ⊢
                      have BK359 := n0_
                      have HI0 := n1_
                      have HK := n2_
                      have HB := n3_
                      clear n0_ n1_ n2_ n3_
                      have n0_ := Aside0.mk (blk_drew BK359.out)
                      have n1_ := Aside0.mk (IsS73.drew HI0.out)
                      have n2_ := Aside0.mk (keep_drew HK.out)
                      have n3_ := Aside0.mk (below_drew1 HB.out)
                      clear BK359
                      clear HI0
                      clear HK
                      clear HB
                      have BK359 := n0_
                      have HI0 := n1_
                      have HK := n2_
                      have HB := n3_
                      clear n0_ n1_ n2_ n3_
                      refine start_ (n := 12) (S := fun w' => w'.cell? ⟨g, 0, none⟩ = some (.int .i64 s0_0) ∧ w'.cell? ⟨g, 1, none⟩ = some (.int .i64 s0_1) ∧ w'.cell? ⟨g, 2, none⟩ = some (.int .i64 x1002_16) ∧ w'.cell? ⟨g, 3, none⟩ = some (.int .i64 s0_3) ∧ w'.cell? ⟨g, 4, none⟩ = some (.string s0_4) ∧ w'.cell? ⟨g, 5, none⟩ = some (.int .i64 (wrap64 (a2 + s0_1)))) (ds := []) #[false, false, false, false, false, false, false, false, false, false, false, false] (by kernel_rfl) rfl rfl ⟨(blk_cell (Aside0.mk HI0.out.1).out 0).trans rfl, (blk_cell (Aside0.mk HI0.out.1).out 1).trans rfl, (blk_cell (Aside0.mk HI0.out.1).out 2).trans rfl, (blk_cell (Aside0.mk HI0.out.1).out 3).trans rfl, (blk_cell (Aside0.mk HI0.out.1).out 4).trans rfl, (blk_cell (Aside0.mk HI0.out.1).out 5).trans rfl⟩ (fun hHeld => ?_); refine with_tabW plenumref49_Receiver_Handle.tab14 plenumref49_Receiver_Handle.bits14 (fun HT_ HW_ => ?_)
                      generalize w56.drew = w57 at BK359 HI0 HK HB hHeld ⊢
                      refine pure_ (i := 0) (N := some 80) (v := ?_) (a' := ?_) #[true, false, false, false, false, false, false, false, false, false, false, false] rfl rfl (any_of HT_.out (by kernel_rfl)) (fun _ _ _ h => h) (Or.inl ⟨by rfl, ?_⟩) ?_ ?_
                      rotate_left
                      · intro w'
                        go_simp
                        with_reducible rfl
                      rotate_left
                      · simp only [Act.put, List.setIfInBounds_toArray, List.set_cons_zero, List.set_cons_succ, i64_w, i32_w]
                        rfl
                      refine pure_ (i := 1) (N := some 81) (v := ?_) (a' := ?_) #[true, true, false, false, false, false, false, false, false, false, false, false] rfl rfl (any_of HT_.out (by kernel_rfl)) (fun _ _ _ h => h) (Or.inl ⟨by rfl, ?_⟩) ?_ ?_
                      rotate_left
                      · intro w'
                        go_simp
                        with_reducible rfl
                      rotate_left
                      · simp only [Act.put, List.setIfInBounds_toArray, List.set_cons_zero, List.set_cons_succ, i64_w, i32_w]
                        rfl
                      refine pure_ (i := 2) (N := some 82) (v := ?_) (a' := ?_) #[true, true, true, false, false, false, false, false, false, false, false, false] rfl rfl (any_of HT_.out (by kernel_rfl)) (fun _ _ _ h => h) (Or.inl ⟨by rfl, ?_⟩) ?_ ?_
                      rotate_left
                      · intro w'
                        go_simp
                        with_reducible rfl
                      rotate_left
                      · simp only [Act.put, List.setIfInBounds_toArray, List.set_cons_zero, List.set_cons_succ, i64_w, i32_w]
                        rfl
                      refine pure_ (i := 4) (N := some 84) (v := ?_) (a' := ?_) #[true, true, true, false, true, false, false, false, false, false, false, false] rfl rfl (any_of HT_.out (by kernel_rfl)) (fun _ _ _ h => h) (Or.inl ⟨by rfl, ?_⟩) ?_ ?_
                      rotate_left
                      · intro w'
                        go_simp
                        with_reducible rfl
                      rotate_left
                      · simp only [Act.put, List.setIfInBounds_toArray, List.set_cons_zero, List.set_cons_succ, i64_w, i32_w]
                        rfl
                      refine pure_ (i := 5) (N := some 85) (v := ?_) (a' := ?_) #[true, true, true, false, true, true, false, false, false, false, false, false] rfl rfl (any_of HT_.out (by kernel_rfl)) (fun _ _ _ h => h) (Or.inl ⟨by rfl, ?_⟩) ?_ ?_
                      rotate_left
                      · intro w'
                        go_simp
                        with_reducible rfl
                      rotate_left
                      · simp only [Act.put, List.setIfInBounds_toArray, List.set_cons_zero, List.set_cons_succ, i64_w, i32_w]
                        rfl
                      refine pure_ (i := 6) (N := some 86) (v := ?_) (a' := ?_) #[true, true, true, false, true, true, true, false, false, false, false, false] rfl rfl (any_of HT_.out (by kernel_rfl)) (fun _ _ _ h => h) (Or.inl ⟨by rfl, ?_⟩) ?_ ?_
                      rotate_left
                      · intro w'
                        go_simp
                        with_reducible rfl
                      rotate_left
                      · simp only [Act.put, List.setIfInBounds_toArray, List.set_cons_zero, List.set_cons_succ, i64_w, i32_w]
                        rfl
                      refine take_ (i := 3) (N := some 83) (v := ?_) (a' := ?_) #[true, true, true, true, true, true, true, false, false, false, false, false] rfl rfl (take_ofW HT_.out HW_.out (by kernel_rfl)) (fun _ _ _ h => h) (Or.inl ⟨by rfl, ?_⟩) hHeld ?_ ?_
                      rotate_left
                      · rintro w' ⟨s0, s1, s2, s3, s4, s5⟩
                        go_simp
                        with_reducible rfl
                      rotate_left
                      · simp only [Act.put, List.setIfInBounds_toArray, List.set_cons_zero, List.set_cons_succ, i64_w, i32_w]
                        rfl
                      refine take_ (i := 7) (N := some 87) (v := ?_) (a' := ?_) #[true, true, true, true, true, true, true, true, false, false, false, false] rfl rfl (take_ofW HT_.out HW_.out (by kernel_rfl)) (fun _ _ _ h => h) (Or.inl ⟨by rfl, ?_⟩) hHeld ?_ ?_
                      rotate_left
                      · rintro w' ⟨s0, s1, s2, s3, s4, s5⟩
                        go_simp
                        with_reducible rfl
                      rotate_left
                      · simp only [Act.put, List.setIfInBounds_toArray, List.set_cons_zero, List.set_cons_succ, i64_w, i32_w]
                        rfl
                      refine pure_ (i := 8) (N := some 88) (v := ?_) (a' := ?_) #[true, true, true, true, true, true, true, true, true, false, false, false] rfl rfl (any_of HT_.out (by kernel_rfl)) (fun _ _ _ h => h) (Or.inl ⟨by rfl, ?_⟩) ?_ ?_
                      rotate_left
                      · intro w'
                        go_simp
                        with_reducible rfl
                      rotate_left
                      · simp only [Act.put, List.setIfInBounds_toArray, List.set_cons_zero, List.set_cons_succ, i64_w, i32_w]
                        rfl
                      refine pure_ (i := 9) (N := some 89) (v := ?_) (a' := ?_) #[true, true, true, true, true, true, true, true, true, true, false, false] rfl rfl (any_of HT_.out (by kernel_rfl)) (fun _ _ _ h => h) (Or.inl ⟨by rfl, ?_⟩) ?_ ?_
                      rotate_left
                      · intro w'
                        go_simp
                        with_reducible rfl
                      rotate_left
                      · simp only [Act.put, List.setIfInBounds_toArray, List.set_cons_zero, List.set_cons_succ, i64_w, i32_w]
                        rfl
                      refine one_ (i := 10) (N := some 90) #[true, true, true, true, true, true, true, true, true, true, true, false] rfl rfl (one_of HT_.out (by kernel_rfl)) (by decide) (fun K hK => ?_)
                      refine Kd.R_lit_step k27 _ 27 ?hg (N := 90) ?hd (xs := ([(⟨2, s0_0, wrap64 (s0_3 - 1), false, 0, (⟨#[]⟩ : ByteArray)⟩ : S27)] : List (S27))) (inner := [.int .i64 2, .int .i64 s0_0, .int .i64 (wrap64 (s0_3 - 1)), .bool false, .int .i64 0, .string (⟨#[]⟩ : ByteArray)]) (ok := fun _ => True) (okp := fun _ => True) ?hr ?hp (fun _ hk => hk) trivial (Below.refl _ _) (Nat.le_refl _) (by simp) ?_; (case hd => rfl); (case hg => rfl); (case hr => first | (go_simp; done) | (go_simp; rfl)); (case hp => exact (Reps.c6 (show Kd.M k27 _ _ _ (⟨2, s0_0, wrap64 (s0_3 - 1), false, 0, (⟨#[]⟩ : ByteArray)⟩ : S27) [.int .i64 2, .int .i64 s0_0, .int .i64 (wrap64 (s0_3 - 1)), .bool false, .int .i64 0, .string (⟨#[]⟩ : ByteArray)] from (k27_mkM _ _ _ (⟨2, s0_0, wrap64 (s0_3 - 1), false, 0, (⟨#[]⟩ : ByteArray)⟩ : S27) )) (Reps.none _ _)))
                      intro v367 w58 ho59 hb hg_ hnew_
                      clear hg_ hnew_
                      (first | rw [← Ny366.out] at ho59 | (simp only [Int.reduceToNat] at ho59; rw [← Ny366.out] at ho59))
                      have n0_ := Aside0.mk (Kd.R_lower (Kd.R_newB ho59 (g := gb359) (o := .cells #[.int .i64 a1_0, .int .i64 a1_1, .int .i64 a1_2, .bool a1_3, .int .i64 a1_4, .string a1_5] 27 (0, 0)) (by (with_reducible repeat (first | refine blk_drewN ?_ _ | refine blk_drew ?_ | refine blk_alloc ?_ _)); exact BK359.out)) (keep_size (w := w) (g := g) (row := none) (by repeat (first | (with_reducible first | exact HK.out | apply KeepBut.set_ | apply keep_drewN | apply keep_drew | apply keep_alloc | refine keep_far ?_ GW359.out _) | exact HK.out))))
                      have n1_ := Aside0.mk (blk_below (g := gb359) (o := .cells #[.int .i64 a1_0, .int .i64 a1_1, .int .i64 a1_2, .bool a1_3, .int .i64 a1_4, .string a1_5] 27 (0, 0)) (by (with_reducible repeat (first | refine blk_drewN ?_ _ | refine blk_drew ?_ | refine blk_alloc ?_ _)); exact BK359.out) hb)
                      have n2_ := Aside0.mk (IsS73.below (by repeat (first | (with_reducible first | exact HI0.out | apply IsS73.alloc | apply IsS73.drewN | apply IsS73.drew | apply IsS73.set_0 | apply IsS73.set_1 | apply IsS73.set_2 | apply IsS73.set_3 | apply IsS73.set_4 | apply IsS73.set_5 | refine IsS73.far ?_ NB0_359.out _) | exact HI0.out)) hb)
                      have n3_ := Aside0.mk (KeepBut.trans (by repeat (first | (with_reducible first | exact HK.out | apply KeepBut.set_ | apply keep_drewN | apply keep_drew | apply keep_alloc | refine keep_far ?_ GW359.out _) | exact HK.out)) (KeepBut.of_below hb g none) (.inl rfl))
                      have n4_ := Aside0.mk (below_step (by repeat (first | (with_reducible first | exact HB.out | apply below_alloc | apply pw_below_drewN | apply below_drew1 | refine below_set ?_ (IsS73.ge HI0.out) | refine below_set ?_ GE359.out) | exact HB.out)) hb)
                      clear BK359
                      clear HI0
                      clear HK
                      clear HB
                      have HO368 := n0_
                      have BK359 := n1_
                      have HI0 := n2_
                      have HK := n3_
                      have HB := n4_
                      clear n0_ n1_ n2_ n3_ n4_
                      clear hb ho59
                      refine hK.out _ _ ⟨(blk_cell (Aside0.mk HI0.out.1).out 0).trans rfl, (blk_cell (Aside0.mk HI0.out.1).out 1).trans rfl, (blk_cell (Aside0.mk HI0.out.1).out 2).trans rfl, (blk_cell (Aside0.mk HI0.out.1).out 3).trans rfl, (blk_cell (Aside0.mk HI0.out.1).out 4).trans rfl, (blk_cell (Aside0.mk HI0.out.1).out 5).trans rfl⟩ (fun hHeld => ?_)
                      clear hK K
                      refine norm_ (a' := ?_) ?_ ?_
                      rotate_left
                      · show Act.put _ (some 90) _ = _
                        simp only [Act.put, List.setIfInBounds_toArray, List.set_cons_zero, List.set_cons_succ, i64_w, i32_w]
                        rfl
                      refine pure_ (i := 11) (N := some 6) (v := ?_) (a' := ?_) #[true, true, true, true, true, true, true, true, true, true, true, true] rfl rfl (any_of HT_.out (by kernel_rfl)) (fun _ _ _ h => h) (Or.inl ⟨by rfl, ?_⟩) ?_ ?_
                      rotate_left
                      · intro w'
                        go_simp
                        with_reducible rfl
                      rotate_left
                      · simp only [Act.put, List.setIfInBounds_toArray, List.set_cons_zero, List.set_cons_succ, i64_w, i32_w]
                        rfl
                      refine done_ (done_of HT_.out (by kernel_rfl)) ?_
                      try go_wp2
                      go_ret
                      exact ⟨_, by first | rfl | (simp [errW_none, errW_some] <;> rfl) | (simp [*, errW_none, errW_some] <;> rfl), by (with_reducible repeat (first | apply Kd.R_alloc | apply Kd.R_drewN | apply Kd.R_drew)); exact Kd.R_mono HO368.out (fun _ hk => trivial), by repeat (first | (with_reducible first | exact HI0.out | apply IsS73.alloc | apply IsS73.drewN | apply IsS73.drew | apply IsS73.set_0 | apply IsS73.set_1 | apply IsS73.set_2 | apply IsS73.set_3 | apply IsS73.set_4 | apply IsS73.set_5 | refine IsS73.far ?_ NB0_359.out _) | exact HI0.out), by repeat (first | (with_reducible first | exact HB.out | apply below_alloc | apply pw_below_drewN | apply below_drew1 | refine below_set ?_ (IsS73.ge HI0.out) | refine below_set ?_ GE359.out) | exact HB.out), by repeat (first | (with_reducible first | exact HK.out | apply KeepBut.set_ | apply keep_drewN | apply keep_drew | apply keep_alloc | refine keep_far ?_ GW359.out _) | exact HK.out)⟩
                  · rw [if_neg c21] at H
                    have c21b0 : (x1002_16 == 0) = false := beq_eq_false_iff_ne.mpr c21
                    have c21b1 : (x1002_16 != 0) = true := bne_iff_ne.mpr c21
                    obtain ⟨y369, hy369⟩ : ∃ y_ : List (S27), y_ = (([(⟨2, s0_0, wrap64 (s0_3 - 1), false, 0, (⟨#[]⟩ : ByteArray)⟩ : S27)] : List (S27))) := ⟨_, rfl⟩
                    replace H : (some (y369, s0_0, s0_1, x1002_16, s0_3, s0_4, s0_5)) = some (r1, r2, r3, r4, r5, r6, r7) := by first | (rw [hy369]; with_reducible exact H) | (have H2_ := (Option.bind_some _ _).symm.trans H; rw [hy369]; with_reducible exact H2_) | (have H2_ := (Option.bind_some _ _).symm.trans H; with_reducible exact H2_) | with_reducible exact H | (rw [hy369]; exact H) | exact H
                    have Ny369 := Aside0.mk hy369
                    clear hy369
                    simp only [Option.some.injEq, Prod.mk.injEq] at H
                    obtain ⟨rfl, rfl, rfl, rfl, rfl, rfl, rfl⟩ := H
                    have hnb60 := NB359_0.out
                    have hnc60 := NB0_359.out
                    have hcz61_0 : wc.cell? ⟨gb359, 0, none⟩ = some (.int .i64 a1_0) := (blk_cell BK359.out 0).trans rfl
                    have hcz61_1 : wc.cell? ⟨gb359, 1, none⟩ = some (.int .i64 a1_1) := (blk_cell BK359.out 1).trans rfl
                    have hcz61_2 : wc.cell? ⟨gb359, 2, none⟩ = some (.int .i64 a1_2) := (blk_cell BK359.out 2).trans rfl
                    have hcz61_3 : wc.cell? ⟨gb359, 3, none⟩ = some (.bool a1_3) := (blk_cell BK359.out 3).trans rfl
                    have hcz61_4 : wc.cell? ⟨gb359, 4, none⟩ = some (.int .i64 a1_4) := (blk_cell BK359.out 4).trans rfl
                    have hcz61_5 : wc.cell? ⟨gb359, 5, none⟩ = some (.string a1_5) := (blk_cell BK359.out 5).trans rfl
                    have hfz61_0 := blk_frozen BK359.out 0
                    have hfz61_1 := blk_frozen BK359.out 1
                    have hfz61_2 := blk_frozen BK359.out 2
                    have hfz61_3 := blk_frozen BK359.out 3
                    have hfz61_4 := blk_frozen BK359.out 4
                    have hfz61_5 := blk_frozen BK359.out 5
                    obtain ⟨HGz62, hgz62⟩ := HI0.out
                    have hcz62_0 := cellS73_0 HGz62
                    have hcz62_1 := cellS73_1 HGz62
                    have hcz62_2 := cellS73_2 HGz62
                    have hcz62_3 := cellS73_3 HGz62
                    have hcz62_4 := cellS73_4 HGz62
                    have hcz62_5 := cellS73_5 HGz62
                    have hfz62_0 := blk_frozen HGz62 0
                    have hfz62_1 := blk_frozen HGz62 1
                    have hfz62_2 := blk_frozen HGz62 2
                    have hfz62_3 := blk_frozen HGz62 3
                    have hfz62_4 := blk_frozen HGz62 4
                    have hfz62_5 := blk_frozen HGz62 5
                    clear HGz62 hgz62
                    try go_wp2
                    have n0_ := Aside0.mk (blk_drew BK359.out)
                    have n1_ := Aside0.mk (IsS73.drew HI0.out)
                    have n2_ := Aside0.mk (keep_drew HK.out)
                    have n3_ := Aside0.mk (below_drew1 HB.out)
                    clear BK359
                    clear HI0
                    clear HK
                    clear HB
                    have BK359 := n0_
                    have HI0 := n1_
                    have HK := n2_
                    have HB := n3_
                    clear n0_ n1_ n2_ n3_
                    refine start_ (n := 12) (S := fun w' => w'.cell? ⟨g, 0, none⟩ = some (.int .i64 s0_0) ∧ w'.cell? ⟨g, 1, none⟩ = some (.int .i64 s0_1) ∧ w'.cell? ⟨g, 2, none⟩ = some (.int .i64 x1002_16) ∧ w'.cell? ⟨g, 3, none⟩ = some (.int .i64 s0_3) ∧ w'.cell? ⟨g, 4, none⟩ = some (.string s0_4) ∧ w'.cell? ⟨g, 5, none⟩ = some (.int .i64 s0_5)) (ds := []) #[false, false, false, false, false, false, false, false, false, false, false, false] (by kernel_rfl) rfl rfl ⟨(blk_cell (Aside0.mk HI0.out.1).out 0).trans rfl, (blk_cell (Aside0.mk HI0.out.1).out 1).trans rfl, (blk_cell (Aside0.mk HI0.out.1).out 2).trans rfl, (blk_cell (Aside0.mk HI0.out.1).out 3).trans rfl, (blk_cell (Aside0.mk HI0.out.1).out 4).trans rfl, (blk_cell (Aside0.mk HI0.out.1).out 5).trans rfl⟩ (fun hHeld => ?_); refine with_tabW plenumref49_Receiver_Handle.tab14 plenumref49_Receiver_Handle.bits14 (fun HT_ HW_ => ?_)
                    generalize wc.drew = w63 at BK359 HI0 HK HB hHeld ⊢
                    refine pure_ (i := 0) (N := some 80) (v := ?_) (a' := ?_) #[true, false, false, false, false, false, false, false, false, false, false, false] rfl rfl (any_of HT_.out (by kernel_rfl)) (fun _ _ _ h => h) (Or.inl ⟨by rfl, ?_⟩) ?_ ?_
                    rotate_left
                    · intro w'
                      go_simp
                      with_reducible rfl
                    rotate_left
                    · simp only [Act.put, List.setIfInBounds_toArray, List.set_cons_zero, List.set_cons_succ, i64_w, i32_w]
                      rfl
                    refine pure_ (i := 1) (N := some 81) (v := ?_) (a' := ?_) #[true, true, false, false, false, false, false, false, false, false, false, false] rfl rfl (any_of HT_.out (by kernel_rfl)) (fun _ _ _ h => h) (Or.inl ⟨by rfl, ?_⟩) ?_ ?_
                    rotate_left
                    · intro w'
                      go_simp
                      with_reducible rfl
                    rotate_left
                    · simp only [Act.put, List.setIfInBounds_toArray, List.set_cons_zero, List.set_cons_succ, i64_w, i32_w]
                      rfl
                    refine pure_ (i := 2) (N := some 82) (v := ?_) (a' := ?_) #[true, true, true, false, false, false, false, false, false, false, false, false] rfl rfl (any_of HT_.out (by kernel_rfl)) (fun _ _ _ h => h) (Or.inl ⟨by rfl, ?_⟩) ?_ ?_
                    rotate_left
                    · intro w'
                      go_simp
                      with_reducible rfl
                    rotate_left
                    · simp only [Act.put, List.setIfInBounds_toArray, List.set_cons_zero, List.set_cons_succ, i64_w, i32_w]
                      rfl
                    refine pure_ (i := 4) (N := some 84) (v := ?_) (a' := ?_) #[true, true, true, false, true, false, false, false, false, false, false, false] rfl rfl (any_of HT_.out (by kernel_rfl)) (fun _ _ _ h => h) (Or.inl ⟨by rfl, ?_⟩) ?_ ?_
                    rotate_left
                    · intro w'
                      go_simp
                      with_reducible rfl
                    rotate_left
                    · simp only [Act.put, List.setIfInBounds_toArray, List.set_cons_zero, List.set_cons_succ, i64_w, i32_w]
                      rfl
                    refine pure_ (i := 5) (N := some 85) (v := ?_) (a' := ?_) #[true, true, true, false, true, true, false, false, false, false, false, false] rfl rfl (any_of HT_.out (by kernel_rfl)) (fun _ _ _ h => h) (Or.inl ⟨by rfl, ?_⟩) ?_ ?_
                    rotate_left
                    · intro w'
                      go_simp
                      with_reducible rfl
                    rotate_left
                    · simp only [Act.put, List.setIfInBounds_toArray, List.set_cons_zero, List.set_cons_succ, i64_w, i32_w]
                      rfl
                    refine pure_ (i := 6) (N := some 86) (v := ?_) (a' := ?_) #[true, true, true, false, true, true, true, false, false, false, false, false] rfl rfl (any_of HT_.out (by kernel_rfl)) (fun _ _ _ h => h) (Or.inl ⟨by rfl, ?_⟩) ?_ ?_
                    rotate_left
                    · intro w'
                      go_simp
                      with_reducible rfl
                    rotate_left
                    · simp only [Act.put, List.setIfInBounds_toArray, List.set_cons_zero, List.set_cons_succ, i64_w, i32_w]
                      rfl
                    refine take_ (i := 3) (N := some 83) (v := ?_) (a' := ?_) #[true, true, true, true, true, true, true, false, false, false, false, false] rfl rfl (take_ofW HT_.out HW_.out (by kernel_rfl)) (fun _ _ _ h => h) (Or.inl ⟨by rfl, ?_⟩) hHeld ?_ ?_
                    rotate_left
                    · rintro w' ⟨s0, s1, s2, s3, s4, s5⟩
                      go_simp
                      with_reducible rfl
                    rotate_left
                    · simp only [Act.put, List.setIfInBounds_toArray, List.set_cons_zero, List.set_cons_succ, i64_w, i32_w]
                      rfl
                    refine take_ (i := 7) (N := some 87) (v := ?_) (a' := ?_) #[true, true, true, true, true, true, true, true, false, false, false, false] rfl rfl (take_ofW HT_.out HW_.out (by kernel_rfl)) (fun _ _ _ h => h) (Or.inl ⟨by rfl, ?_⟩) hHeld ?_ ?_
                    rotate_left
                    · rintro w' ⟨s0, s1, s2, s3, s4, s5⟩
                      go_simp
                      with_reducible rfl
                    rotate_left
                    · simp only [Act.put, List.setIfInBounds_toArray, List.set_cons_zero, List.set_cons_succ, i64_w, i32_w]
                      rfl
                    refine pure_ (i := 8) (N := some 88) (v := ?_) (a' := ?_) #[true, true, true, true, true, true, true, true, true, false, false, false] rfl rfl (any_of HT_.out (by kernel_rfl)) (fun _ _ _ h => h) (Or.inl ⟨by rfl, ?_⟩) ?_ ?_
                    rotate_left
                    · intro w'
                      go_simp
                      with_reducible rfl
                    rotate_left
                    · simp only [Act.put, List.setIfInBounds_toArray, List.set_cons_zero, List.set_cons_succ, i64_w, i32_w]
                      rfl
                    refine pure_ (i := 9) (N := some 89) (v := ?_) (a' := ?_) #[true, true, true, true, true, true, true, true, true, true, false, false] rfl rfl (any_of HT_.out (by kernel_rfl)) (fun _ _ _ h => h) (Or.inl ⟨by rfl, ?_⟩) ?_ ?_
                    rotate_left
                    · intro w'
                      go_simp
                      with_reducible rfl
                    rotate_left
                    · simp only [Act.put, List.setIfInBounds_toArray, List.set_cons_zero, List.set_cons_succ, i64_w, i32_w]
                      rfl
                    refine one_ (i := 10) (N := some 90) #[true, true, true, true, true, true, true, true, true, true, true, false] rfl rfl (one_of HT_.out (by kernel_rfl)) (by decide) (fun K hK => ?_)
                    refine Kd.R_lit_step k27 _ 27 ?hg (N := 90) ?hd (xs := ([(⟨2, s0_0, wrap64 (s0_3 - 1), false, 0, (⟨#[]⟩ : ByteArray)⟩ : S27)] : List (S27))) (inner := [.int .i64 2, .int .i64 s0_0, .int .i64 (wrap64 (s0_3 - 1)), .bool false, .int .i64 0, .string (⟨#[]⟩ : ByteArray)]) (ok := fun _ => True) (okp := fun _ => True) ?hr ?hp (fun _ hk => hk) trivial (Below.refl _ _) (Nat.le_refl _) (by simp) ?_; (case hd => rfl); (case hg => rfl); (case hr => first | (go_simp; done) | (go_simp; rfl)); (case hp => exact (Reps.c6 (show Kd.M k27 _ _ _ (⟨2, s0_0, wrap64 (s0_3 - 1), false, 0, (⟨#[]⟩ : ByteArray)⟩ : S27) [.int .i64 2, .int .i64 s0_0, .int .i64 (wrap64 (s0_3 - 1)), .bool false, .int .i64 0, .string (⟨#[]⟩ : ByteArray)] from (k27_mkM _ _ _ (⟨2, s0_0, wrap64 (s0_3 - 1), false, 0, (⟨#[]⟩ : ByteArray)⟩ : S27) )) (Reps.none _ _)))
                    intro v370 w64 ho65 hb hg_ hnew_
                    clear hg_ hnew_
                    (first | rw [← Ny369.out] at ho65 | (simp only [Int.reduceToNat] at ho65; rw [← Ny369.out] at ho65))
                    have n0_ := Aside0.mk (Kd.R_lower (Kd.R_newB ho65 (g := gb359) (o := .cells #[.int .i64 a1_0, .int .i64 a1_1, .int .i64 a1_2, .bool a1_3, .int .i64 a1_4, .string a1_5] 27 (0, 0)) (by (with_reducible repeat (first | refine blk_drewN ?_ _ | refine blk_drew ?_ | refine blk_alloc ?_ _)); exact BK359.out)) (keep_size (w := w) (g := g) (row := none) (by repeat (first | (with_reducible first | exact HK.out | apply KeepBut.set_ | apply keep_drewN | apply keep_drew | apply keep_alloc | refine keep_far ?_ GW359.out _) | exact HK.out))))
                    have n1_ := Aside0.mk (blk_below (g := gb359) (o := .cells #[.int .i64 a1_0, .int .i64 a1_1, .int .i64 a1_2, .bool a1_3, .int .i64 a1_4, .string a1_5] 27 (0, 0)) (by (with_reducible repeat (first | refine blk_drewN ?_ _ | refine blk_drew ?_ | refine blk_alloc ?_ _)); exact BK359.out) hb)
                    have n2_ := Aside0.mk (IsS73.below (by repeat (first | (with_reducible first | exact HI0.out | apply IsS73.alloc | apply IsS73.drewN | apply IsS73.drew | apply IsS73.set_0 | apply IsS73.set_1 | apply IsS73.set_2 | apply IsS73.set_3 | apply IsS73.set_4 | apply IsS73.set_5 | refine IsS73.far ?_ NB0_359.out _) | exact HI0.out)) hb)
                    have n3_ := Aside0.mk (KeepBut.trans (by repeat (first | (with_reducible first | exact HK.out | apply KeepBut.set_ | apply keep_drewN | apply keep_drew | apply keep_alloc | refine keep_far ?_ GW359.out _) | exact HK.out)) (KeepBut.of_below hb g none) (.inl rfl))
                    have n4_ := Aside0.mk (below_step (by repeat (first | (with_reducible first | exact HB.out | apply below_alloc | apply pw_below_drewN | apply below_drew1 | refine below_set ?_ (IsS73.ge HI0.out) | refine below_set ?_ GE359.out) | exact HB.out)) hb)
                    clear BK359
                    clear HI0
                    clear HK
                    clear HB
                    have HO371 := n0_
                    have BK359 := n1_
                    have HI0 := n2_
                    have HK := n3_
                    have HB := n4_
                    clear n0_ n1_ n2_ n3_ n4_
                    clear hb ho65
                    refine hK.out _ _ ⟨(blk_cell (Aside0.mk HI0.out.1).out 0).trans rfl, (blk_cell (Aside0.mk HI0.out.1).out 1).trans rfl, (blk_cell (Aside0.mk HI0.out.1).out 2).trans rfl, (blk_cell (Aside0.mk HI0.out.1).out 3).trans rfl, (blk_cell (Aside0.mk HI0.out.1).out 4).trans rfl, (blk_cell (Aside0.mk HI0.out.1).out 5).trans rfl⟩ (fun hHeld => ?_)
                    clear hK K
                    refine norm_ (a' := ?_) ?_ ?_
                    rotate_left
                    · show Act.put _ (some 90) _ = _
                      simp only [Act.put, List.setIfInBounds_toArray, List.set_cons_zero, List.set_cons_succ, i64_w, i32_w]
                      rfl
                    refine pure_ (i := 11) (N := some 6) (v := ?_) (a' := ?_) #[true, true, true, true, true, true, true, true, true, true, true, true] rfl rfl (any_of HT_.out (by kernel_rfl)) (fun _ _ _ h => h) (Or.inl ⟨by rfl, ?_⟩) ?_ ?_
                    rotate_left
                    · intro w'
                      go_simp
                      with_reducible rfl
                    rotate_left
                    · simp only [Act.put, List.setIfInBounds_toArray, List.set_cons_zero, List.set_cons_succ, i64_w, i32_w]
                      rfl
                    refine done_ (done_of HT_.out (by kernel_rfl)) ?_
                    try go_wp2
                    go_ret
                    exact ⟨_, by first | rfl | (simp [errW_none, errW_some] <;> rfl) | (simp [*, errW_none, errW_some] <;> rfl), by (with_reducible repeat (first | apply Kd.R_alloc | apply Kd.R_drewN | apply Kd.R_drew)); exact Kd.R_mono HO371.out (fun _ hk => trivial), by repeat (first | (with_reducible first | exact HI0.out | apply IsS73.alloc | apply IsS73.drewN | apply IsS73.drew | apply IsS73.set_0 | apply IsS73.set_1 | apply IsS73.set_2 | apply IsS73.set_3 | apply IsS73.set_4 | apply IsS73.set_5 | refine IsS73.far ?_ NB0_359.out _) | exact HI0.out), by repeat (first | (with_reducible first | exact HB.out | apply below_alloc | apply pw_below_drewN | apply below_drew1 | refine below_set ?_ (IsS73.ge HI0.out) | refine below_set ?_ GE359.out) | exact HB.out), by repeat (first | (with_reducible first | exact HK.out | apply KeepBut.set_ | apply keep_drewN | apply keep_drew | apply keep_alloc | refine keep_far ?_ GW359.out _) | exact HK.out)⟩
                · rw [if_neg c20] at H
                  have c20b0 : (a1_0 == 1) = false := beq_eq_false_iff_ne.mpr c20
                  have c20b1 : (a1_0 != 1) = true := bne_iff_ne.mpr c20
                  simp only [Option.some.injEq, Prod.mk.injEq] at H
                  obtain ⟨rfl, rfl, rfl, rfl, rfl, rfl, rfl⟩ := H
                  have hnb66 := NB359_0.out
                  have hnc66 := NB0_359.out
                  have hcz67_0 : wc.cell? ⟨gb359, 0, none⟩ = some (.int .i64 a1_0) := (blk_cell BK359.out 0).trans rfl
                  have hcz67_1 : wc.cell? ⟨gb359, 1, none⟩ = some (.int .i64 a1_1) := (blk_cell BK359.out 1).trans rfl
                  have hcz67_2 : wc.cell? ⟨gb359, 2, none⟩ = some (.int .i64 a1_2) := (blk_cell BK359.out 2).trans rfl
                  have hcz67_3 : wc.cell? ⟨gb359, 3, none⟩ = some (.bool a1_3) := (blk_cell BK359.out 3).trans rfl
                  have hcz67_4 : wc.cell? ⟨gb359, 4, none⟩ = some (.int .i64 a1_4) := (blk_cell BK359.out 4).trans rfl
                  have hcz67_5 : wc.cell? ⟨gb359, 5, none⟩ = some (.string a1_5) := (blk_cell BK359.out 5).trans rfl
                  have hfz67_0 := blk_frozen BK359.out 0
                  have hfz67_1 := blk_frozen BK359.out 1
                  have hfz67_2 := blk_frozen BK359.out 2
                  have hfz67_3 := blk_frozen BK359.out 3
                  have hfz67_4 := blk_frozen BK359.out 4
                  have hfz67_5 := blk_frozen BK359.out 5
                  go_wp2
                  go_ret
                  exact ⟨_, by first | rfl | (simp [errW_none, errW_some] <;> rfl) | (simp [*, errW_none, errW_some] <;> rfl), by first | exact Kd.R_nil _ _ _ _ _ | exact Kd.N_nil _ _ _ _ _ | exact Kd.V_nil _ _ _ _ _ | exact Kd.Q_nil _ _ _ _ _ | exact Kd.S_nil _ _ _ _ _, by repeat (first | (with_reducible first | exact HI0.out | apply IsS73.alloc | apply IsS73.drewN | apply IsS73.drew | apply IsS73.set_0 | apply IsS73.set_1 | apply IsS73.set_2 | apply IsS73.set_3 | apply IsS73.set_4 | apply IsS73.set_5 | refine IsS73.far ?_ NB0_359.out _) | exact HI0.out), by repeat (first | (with_reducible first | exact HB.out | apply below_alloc | apply pw_below_drewN | apply below_drew1 | refine below_set ?_ (IsS73.ge HI0.out) | refine below_set ?_ GE359.out) | exact HB.out), by repeat (first | (with_reducible first | exact HK.out | apply KeepBut.set_ | apply keep_drewN | apply keep_drew | apply keep_alloc | refine keep_far ?_ GW359.out _) | exact HK.out)⟩
end Go.Proofs.YtbgabhknmpbgiaaDoor.S
end
section
namespace Go.Proofs.YtbgabhknmpbgiaaDoor.S
open Go.RowKit Go.Proofs.YtbgabhknmpbgiaaDoor.Pure Go.Proofs.YtbgabhknmpbgiaaDoorW.PrintWords Go.Proofs.YtbgabhknmpbgiaaDoorW.PrintLast Go.Proofs.YtbgabhknmpbgiaaDoorW.PrintMore
set_option linter.unusedVariables false
set_option linter.unusedSimpArgs false
abbrev DAt (w : World) (g : Nat) (d : Rn) : Prop := w.heap[g]? = some (.cells #[.int .i64 d.id, .int .i64 d.timeout, .int .i64 d.state, .int .i64 d.count, .string (strOfNums d.msg), .int .i64 d.deadline] 73 (0, 0))
structure Duo (w0 : World) (B gp gd : Nat) (r d : Rn) (w : World) : Prop where
  rcv : RcvAt B gp r w
  bw : B ≤ w.heap.size
  doc : DAt w gd d
  dge : w0.heap.size ≤ gd
  b0 : w0.heap.size ≤ B
  base : Below w0.heap.size w0 w
theorem Duo.ne {w0 : World} {B gp gd : Nat} {r d : Rn} {w : World} (h : Duo w0 B gp gd r d w) : gp ≠ gd := by
  obtain ⟨v, h1, _⟩ := h.rcv
  exact blk_ne h1 h.doc (by decide)
theorem Duo.below {w0 : World} {B gp gd : Nat} {r d : Rn} {w w1 : World} (h : Duo w0 B gp gd r d w) (hb : Below w.heap.size w w1) : Duo w0 B gp gd r d w1 :=
  ⟨h.rcv.below hb, Nat.le_trans h.bw hb.size, blk_below h.doc hb, h.dge, h.b0, below_step h.base hb⟩
structure KeepY (w w' : World) : Prop where
  size : w.heap.size ≤ w'.heap.size
  keep : ∀ (k : Nat) cs t, w.heap[k]? = some (.cells cs t (0, 0)) → t ≠ 5 → t ≠ 113 → w'.heap[k]? = some (.cells cs t (0, 0))
theorem Duo.pcall {w0 : World} {B gp gd : Nat} {r d : Rn} {w w1 : World} {x : List S23 × Rn} {e : Ending} (h : Duo w0 B gp gd r d w) (hp : RcvPost B w gp x e w1) : ∃ v : Value, e = .returned v ∧ Pt w.heap.size w1 v x.1 ∧ Duo w0 B gp gd x.2 d w1 ∧ KeepY w w1 := by
  obtain ⟨v, he, hv, hr, hb, hk⟩ := hp
  have hne := h.ne
  obtain ⟨u, h4, _⟩ := h.rcv
  exact ⟨v, he, hv, ⟨hr, Nat.le_trans h.bw hk.size, hk.keep gd _ 73 h.doc (by decide) (Ne.symm hne), h.dge, h.b0, h.base.trans (hb.mono h.b0)⟩, ⟨hk.size, fun k cs t hc h5 h113 => hk.keep k cs t hc h5 (fun e => by subst e; rw [hc] at h4; injection h4 with h4; injection h4 with _ h4 _; exact h113 h4)⟩⟩
theorem Duo.dcall {w0 : World} {B gp gd : Nat} {r d d' : Rn} {w w1 : World} {ys : List S27} {v : Value} (h : Duo w0 B gp gd r d w) (ho : Kd.R k27 27 w1 w.heap.size (fun _ => True) v ys) (hi : IsS73 w0 w1 gd d'.id d'.timeout d'.state d'.count (strOfNums d'.msg) d'.deadline) (hb : Below w0.heap.size w0 w1) (hk : KeepBut w w1 gd none) : Kd.V k27 27 w1 0 (okT 27 0 w1) v ys ∧ Duo w0 B gp gd r d' w1 ∧ KeepX w w1 73 := by
  have hne := h.ne
  exact ⟨Kd.V_mono (Kd.R_V (Kd.R_mono (Kd.R_bound ho) (ok' := okT 27 w.heap.size w1) (fun k hk => okT_27 k hk))) (fun _ hk => okT_le hk (Nat.zero_le _)), ⟨h.rcv.keepBut hk hne h.doc (by decide), Nat.le_trans h.bw hk.1, hi.1, h.dge, h.b0, hb⟩, KeepX.of_keepBut hk h.doc⟩
theorem Duo.ptick {w0 : World} {B gp gd : Nat} {r d : Rn} {w : World} (h : Duo w0 B gp gd r d w) (now : Int) : Calls Tryd.prog 32 #[.pointer (some ⟨gp, 0, none⟩), .int .i64 now] w fun e w' => ∃ v : Value, e = .returned v ∧ Pt w.heap.size w' v (r.tick now).1 ∧ Duo w0 B gp gd (r.tick now).2 d w' ∧ KeepY w w' :=
  (rtick_calls B gp r now w h.rcv).mono fun e w' hp => h.pcall hp
theorem Duo.phandle {w0 : World} {B gp gd : Nat} {r d : Rn} {w : World} (h : Duo w0 B gp gd r d w) (p0 p1 p2 : Int) (p3 : Bool) (p4 : Int) (p5 : ByteArray) (now : Int) (hl : r.msg.length + p5.size ≤ 140737488355328) : Calls Tryd.prog 34 #[.pointer (some ⟨gp, 0, none⟩), .agg #[.int .i64 p0, .int .i64 p1, .int .i64 p2, .bool p3, .int .i64 p4, .string p5], .int .i64 now] w fun e w' => ∃ v : Value, e = .returned v ∧ Pt w.heap.size w' v (r.handle p0 p1 p2 p3 p5 now).1 ∧ Duo w0 B gp gd (r.handle p0 p1 p2 p3 p5 now).2 d w' ∧ KeepY w w' :=
  (rhandle_calls B gp r p0 p1 p2 p3 p4 p5 now w h.rcv h.bw hl).mono fun e w' hp => h.pcall hp
theorem docTick (d : Rn) (now : Int) : plenumref49_Receiver_Tick.f d.id d.timeout d.state d.count (strOfNums d.msg) d.deadline now = some ((d.tick now).1.map conv, (d.tick now).2.id, (d.tick now).2.timeout, (d.tick now).2.state, (d.tick now).2.count, strOfNums (d.tick now).2.msg, (d.tick now).2.deadline) := by
  unfold plenumref49_Receiver_Tick.f Rn.tick
  by_cases h1 : d.state = 0
  · rw [if_pos h1, if_pos h1]
    by_cases h2 : now < d.deadline
    · rw [if_pos h2, if_pos h2]
      rfl
    · rw [if_neg h2, if_neg h2]
      rfl
  · rw [if_neg h1, if_neg h1]
    rfl
theorem Duo.dtick {w0 : World} {B gp gd : Nat} {r d : Rn} {w : World} (hG : Glob w0) (h : Duo w0 B gp gd r d w) (now : Int) : Calls Tryd.prog 33 #[.pointer (some ⟨gd, 0, none⟩), .int .i64 now] w fun e w' => ∃ v : Value, e = .returned v ∧ Kd.V k27 27 w' 0 (okT 27 0 w') v ((d.tick now).1.map conv) ∧ Duo w0 B gp gd r (d.tick now).2 w' ∧ KeepX w w' 73 := by
  refine (plenumref49_Receiver_Tick.calls gd d.id d.timeout d.state d.count (strOfNums d.msg) d.deadline now _ _ _ _ _ _ _ w0 w hG ⟨h.doc, h.dge⟩ h.base (docTick d now)).mono ?_
  rintro e w' ⟨v, he, ho, hi, hb, hk⟩
  exact ⟨v, he, h.dcall ho hi hb hk⟩
set_option maxHeartbeats 2000000 in
theorem docHandle (K : Nat) (d : Rn) (p0 p1 p2 : Int) (p3 : Bool) (p4 : Int) (p5 : ByteArray) (now : Int) (hst : d.state = 0 ∨ d.state = 1 ∨ d.state = 2) (hl : d.msg.length + p5.size ≤ 140737488355328) : plenumref49_Receiver_Handle.f (K + 4) d.id d.timeout d.state d.count (strOfNums d.msg) d.deadline p0 p1 p2 p3 p4 p5 now = some ((d.handle p0 p1 p2 p3 p5 now).1.map conv, (d.handle p0 p1 p2 p3 p5 now).2.id, (d.handle p0 p1 p2 p3 p5 now).2.timeout, (d.handle p0 p1 p2 p3 p5 now).2.state, (d.handle p0 p1 p2 p3 p5 now).2.count, strOfNums (d.handle p0 p1 p2 p3 p5 now).2.msg, (d.handle p0 p1 p2 p3 p5 now).2.deadline) := by
  obtain ⟨id, timeout, state, count, msg, deadline⟩ := d
  have hz : (strOfNums msg).size + p5.size ≤ 9223372036854775807 := by
    rw [strOfNums_size]
    have : msg.length + p5.size ≤ 140737488355328 := hl
    omega
  have ha : strOfNums (msg ++ bytesOf p5) = strOfNums msg ++ p5 := by rw [strOfNums_app, strOfNums_bytes]
  simp only [plenumref49_Receiver_Handle.f, Rn.handle, Rn.take, Rn.late, Rn.ack, plenumref49_Receiver_Handle.j0, plenumref49_Receiver_Handle.j1, plenumref49_Receiver_Handle.j2]
  by_cases h1 : p1 = id
  · have h1b : (p1 != id) = false := by rw [h1]; exact bne_self_eq_false _
    rw [if_pos h1, h1b]
    by_cases h2 : state = 2
    · subst h2
      simp only [if_true]
      by_cases k : p0 = 1
      · simp [k]
      · by_cases k3 : p0 = 3 <;> simp [k, k3]
    · rw [if_neg h2, if_neg Bool.false_ne_true]
      by_cases k : p0 = 1
      · subst k
        by_cases s1 : state = 1
        · subst s1
          simp [conv]
        · by_cases s0 : state = 0
          · subst s0
            by_cases q : p2 = count
            · subst q
              cases p3 <;> simp [hz, ha, conv]
            · simp [q, conv]
          · exact absurd hst (fun h => h.elim s0 (fun h => h.elim s1 h2))
      · by_cases k3 : p0 = 3
        · subst k3
          by_cases s0 : state = 0
          · subst s0
            simp
          · have s0b : (state == 0) = false := beq_false_of_ne s0
            simp [s0]
        · simp [k, k3]
  · have h1b : (p1 != id) = true := bne_iff_ne.mpr h1
    rw [if_neg h1, h1b]
    by_cases h2 : state = 2
    · rw [if_pos h2]
      simp
    · rw [if_neg h2]
      simp
theorem Duo.dhandle {w0 : World} {B gp gd : Nat} {r d : Rn} {w : World} (hG : Glob w0) (h : Duo w0 B gp gd r d w) (p0 p1 p2 : Int) (p3 : Bool) (p4 : Int) (p5 : ByteArray) (now : Int) (hst : d.state = 0 ∨ d.state = 1 ∨ d.state = 2) (hl : d.msg.length + p5.size ≤ 140737488355328) : Calls Tryd.prog 35 #[.pointer (some ⟨gd, 0, none⟩), .agg #[.int .i64 p0, .int .i64 p1, .int .i64 p2, .bool p3, .int .i64 p4, .string p5], .int .i64 now] w fun e w' => ∃ v : Value, e = .returned v ∧ Kd.V k27 27 w' 0 (okT 27 0 w') v ((d.handle p0 p1 p2 p3 p5 now).1.map conv) ∧ Duo w0 B gp gd r (d.handle p0 p1 p2 p3 p5 now).2 w' ∧ KeepX w w' 73 := by
  refine (plenumref49_Receiver_Handle.calls 4 gd d.id d.timeout d.state d.count (strOfNums d.msg) d.deadline p0 p1 p2 p3 p4 p5 now _ _ _ _ _ _ _ w0 w hG ⟨h.doc, h.dge⟩ h.base (docHandle 0 d p0 p1 p2 p3 p4 p5 now hst hl)).mono ?_
  rintro e w' ⟨v, he, ho, hi, hb, hk⟩
  exact ⟨v, he, h.dcall ho hi hb hk⟩
def Rn.text (r : Rn) : ByteArray := if r.state = 1 then strOfNums r.msg else ⟨#[]⟩
theorem Duo.pmessage {w0 : World} {B gp gd : Nat} {r d : Rn} {w : World} (h : Duo w0 B gp gd r d w) (mt : ByteArray) (mb : Bool) (h1 : r.text = mt) (h2 : (r.state == 1) = mb) : Calls Tryd.prog 36 #[.pointer (some ⟨gp, 0, none⟩)] w fun e w' => e = .returned (.tuple #[.string mt, .bool mb]) ∧ w' = w := by
  subst h1 h2
  exact rmessage_calls B gp r w h.rcv
theorem Duo.dmessage {w0 : World} {B gp gd : Nat} {r d : Rn} {w : World} (hG : Glob w0) (h : Duo w0 B gp gd r d w) (mt : ByteArray) (mb : Bool) (h1 : d.text = mt) (h2 : (d.state == 1) = mb) : Calls Tryd.prog 37 #[.pointer (some ⟨gd, 0, none⟩)] w fun e w' => e = .returned (.tuple #[.string mt, .bool mb]) ∧ Duo w0 B gp gd r d w' ∧ KeepX w w' 73 := by
  refine (plenumref49_Receiver_Message.calls gd d.id d.timeout d.state d.count (strOfNums d.msg) d.deadline mt mb d.id d.timeout d.state d.count (strOfNums d.msg) d.deadline w0 w hG ⟨h.doc, h.dge⟩ h.base ?_).mono ?_
  · unfold plenumref49_Receiver_Message.f
    subst h1 h2
    unfold Rn.text
    by_cases q : d.state = 1
    · rw [if_pos q, if_pos q, q]
      rfl
    · rw [if_neg q, if_neg q, beq_false_of_ne q]
  · rintro e w' ⟨he, hi, hb, hk⟩
    exact ⟨he, ⟨h.rcv.keepBut hk h.ne h.doc (by decide), Nat.le_trans h.bw hk.1, hi.1, h.dge, h.b0, hb⟩, KeepX.of_keepBut hk h.doc⟩
theorem Duo.pstate {w0 : World} {B gp gd : Nat} {r d : Rn} {w : World} (h : Duo w0 B gp gd r d w) (st : Int) (h1 : r.state = st) : Calls Tryd.prog 38 #[.pointer (some ⟨gp, 0, none⟩)] w fun e w' => e = .returned (.int .i64 st) ∧ w' = w := by
  subst h1
  exact rstate_calls B gp r w h.rcv
theorem Duo.dstate {w0 : World} {B gp gd : Nat} {r d : Rn} {w : World} (h : Duo w0 B gp gd r d w) (st : Int) (h1 : d.state = st) : w.cell? ⟨gd, 2, none⟩ = some (.int .i64 st) := by
  subst h1
  exact (blk_cell h.doc 2).trans rfl
structure OkR (r : Rn) (n : Nat) : Prop where
  st : r.state = 0 ∨ r.state = 1 ∨ r.state = 2
  len : r.msg.length ≤ n
theorem bytesOf_len (s : ByteArray) : (bytesOf s).length = s.size := bytesOf_length s
theorem OkR.tick {r : Rn} {n : Nat} (h : OkR r n) (now : Int) : OkR (r.tick now).2 n ∧ (r.tick now).1.length ≤ 64 := by
  unfold Rn.tick
  split
  · split
    · exact ⟨h, by simp⟩
    · exact ⟨⟨Or.inr (Or.inr rfl), h.len⟩, by simp⟩
  · exact ⟨h, by simp⟩
theorem OkR.handle {r : Rn} {n : Nat} (h : OkR r n) (p0 p1 p2 : Int) (p3 : Bool) (p5 : ByteArray) (now : Int) : OkR (r.handle p0 p1 p2 p3 p5 now).2 (n + p5.size) ∧ (r.handle p0 p1 p2 p3 p5 now).1.length ≤ 64 := by
  have h' : OkR r (n + p5.size) := ⟨h.st, by have := h.len; omega⟩
  unfold Rn.handle
  split
  · split
    · split
      · exact ⟨h', by simp⟩
      · split
        · rename_i s0
          refine ⟨?_, by simp⟩
          unfold Rn.late Rn.take
          split
          · refine ⟨?_, ?_⟩
            · cases p3
              · exact Or.inr (Or.inl rfl)
              · exact h.st
            · show (r.msg ++ bytesOf p5).length ≤ n + p5.size
              rw [List.length_append, bytesOf_len]
              have := h.len
              omega
          · exact ⟨h'.st, h'.len⟩
        · exact ⟨h', by simp⟩
    · split
      · split
        · exact ⟨⟨Or.inr (Or.inr rfl), h'.len⟩, by simp⟩
        · exact ⟨h', by simp⟩
      · exact ⟨h', by simp⟩
  · exact ⟨h', by simp⟩
end Go.Proofs.YtbgabhknmpbgiaaDoor.S
end
section
namespace Go.Proofs.YtbgabhknmpbgiaaDoor.S
open Go.RowKit Go.Proofs.YtbgabhknmpbgiaaDoorW.PrintWords Go.Proofs.YtbgabhknmpbgiaaDoorW.PrintLast Go.Proofs.YtbgabhknmpbgiaaDoorW.PrintMore
set_option linter.unusedVariables false
set_option linter.unusedSimpArgs false
def WrAt (B g : Nat) (l : List Int) (w : World) : Prop := ∃ v, w.heap[g]? = some (.cells #[v] 82 (0, 0)) ∧ B ≤ g ∧ Kd.R (Kd.int .u8) 5 w B (fun _ => True) v l
structure KeepT (w w' : World) : Prop where
  size : w.heap.size ≤ w'.heap.size
  keep : ∀ (k : Nat) cs t, w.heap[k]? = some (.cells cs t (0, 0)) → t ≠ 5 → t ≠ 82 → w'.heap[k]? = some (.cells cs t (0, 0))
theorem KeepT.trans {w w1 w2 : World} (h : KeepT w w1) (k : KeepT w1 w2) : KeepT w w2 := ⟨Nat.le_trans h.size k.size, fun j cs t hj h1 h2 => k.keep j cs t (h.keep j cs t hj h1 h2) h1 h2⟩
structure WrStep (B g : Nat) (l' : List Int) (w w1 : World) (v v1 : Value) : Prop where
  at_ : WrAt B g l' (w1.setCell ⟨g, 0, none⟩ v1)
  bel : Below B w (w1.setCell ⟨g, 0, none⟩ v1)
  keep : KeepT w (w1.setCell ⟨g, 0, none⟩ v1)
  cell : w1.cell? ⟨g, 0, none⟩ = some v
  free : w1.frozen? ⟨g, 0, none⟩ = false
theorem wr_step {B g : Nat} {l l' : List Int} {w W1 w1 : World} {v v1 : Value} (hv : w.heap[g]? = some (.cells #[v] 82 (0, 0))) (hg : B ≤ g) (ho : Kd.R (Kd.int .u8) 5 w B (fun _ => True) v l)
    (hb1 : Below w.heap.size w W1) (ho1 : Kd.R (Kd.int .u8) 5 w1 B (fun _ => True) v1 l') (hbel : Below B w w1) (hgr : W1.grownBy w1 v.ownBlock) : WrStep B g l' w w1 v v1 := by
  have hne : ∀ (k : Nat) cs t, w.heap[k]? = some (.cells cs t (0, 0)) → t ≠ 5 → some k ≠ v.ownBlock := fun k cs t hk ht => Kd.R_ne ho hk (Ne.symm ht)
  have h1 : w1.heap[g]? = some (.cells #[v] 82 (0, 0)) := blk_grown (blk_below hv hb1) hgr (hne g _ _ hv (by decide))
  have hsz : w.heap.size ≤ w1.heap.size := Nat.le_trans hb1.size hgr.size
  refine ⟨⟨v1, blk_put h1 0 v1 rfl, hg, ?_⟩, hbel.setCell hg _, ⟨by simpa [World.setCell] using hsz, fun k cs t hk t1 t2 => ?_⟩, (blk_cell h1 0).trans rfl, blk_frozen h1 0⟩
  · have ha := Kd.R_types ho1 h1 (fun q hq => by
      rcases List.mem_cons.1 hq with rfl | hq
      · decide
      · cases hq)
    exact Kd.R_mono (Kd.R_far ha (p := ⟨g, 0, none⟩) (fun _ h => h.2) v1) (fun _ _ => trivial)
  · exact blk_far (blk_grown (blk_below hk hb1) hgr (hne k _ _ hk t1)) (by rintro rfl; rw [hv] at hk; injection hk with hk; injection hk with _ hk _; exact t2 hk.symm) _
def WrPost (B g : Nat) (l' : List Int) (w : World) (r : Value) (e : Ending) (w' : World) : Prop := e = .returned r ∧ WrAt B g l' w' ∧ Below B w w' ∧ KeepT w w'
def wrMax : Nat := 1000000000000
set_option maxHeartbeats 8000000 in
set_option maxRecDepth 100000 in
theorem wr_bool_true (B g : Nat) (l : List Int) (w : World) (hB : B ≤ w.heap.size) (h : WrAt B g l w) (hl : l.length ≤ wrMax) :
    Calls Tryd.prog 42 #[.pointer (some ⟨g, 0, none⟩), .bool true] w fun e w' => WrPost B g (l ++ [2]) w (.tuple #[]) e w' := by
  obtain ⟨v, hv, hg, ho⟩ := h
  unfold wrMax at hl
  have HV := Aside0.mk hv
  have HO := Aside0.mk ho
  have HG := Aside0.mk hg
  have HS := Aside0.mk hB
  have hc := (blk_cell hv 0).trans rfl
  clear hv ho hg hB
  obtain ⟨ls, LS⟩ : ∃ ls, Aside0 (l ++ [2] = ls) := ⟨_, ⟨rfl⟩⟩
  rw [LS.out]
  go_enter Tryd.func42, Tryd.ntmps42
  go_wp2_with (at_builtin; refine Kd.R_append (Kd.int .u8) (w0 := w) B rfl (.tmp 9) (.tmp 10) 80 5 (.int .u8 0) 1 rfl Tryd.underlying80 info5 rfl (by decide) (by omega) v l 2 [.int .u8 2] (fun _ => True) (fun _ => False) rfl rfl rfl (fun _ hk => hk.elim) (fun _ _ => trivial) HO.out (Below.refl _ _) HS.out (by omega) ?_; intro v1 w9 ho hb hg hat; rw [LS.out] at ho; obtain ⟨A1, c1, e1⟩ := Kd.R_slice ho; subst e1; have HW := Aside0.mk (wr_step HV.out HG.out HO.out (Below.refl _ _) ho hb hg); have hcc := HW.out.cell; have hff := HW.out.free; clear ho hb hg hat hc)
  refine bodyPost_end (results_none rfl _ _ _) rfl ?_
  exact ⟨rfl, HW.out.at_, HW.out.bel, HW.out.keep⟩
set_option maxHeartbeats 8000000 in
set_option maxRecDepth 100000 in
theorem wr_bool_false (B g : Nat) (l : List Int) (w : World) (hB : B ≤ w.heap.size) (h : WrAt B g l w) (hl : l.length ≤ wrMax) :
    Calls Tryd.prog 42 #[.pointer (some ⟨g, 0, none⟩), .bool false] w fun e w' => WrPost B g (l ++ [1]) w (.tuple #[]) e w' := by
  obtain ⟨v, hv, hg, ho⟩ := h
  unfold wrMax at hl
  have HV := Aside0.mk hv
  have HO := Aside0.mk ho
  have HG := Aside0.mk hg
  have HS := Aside0.mk hB
  have hc := (blk_cell hv 0).trans rfl
  clear hv ho hg hB
  obtain ⟨ls, LS⟩ : ∃ ls, Aside0 (l ++ [1] = ls) := ⟨_, ⟨rfl⟩⟩
  rw [LS.out]
  go_enter Tryd.func42, Tryd.ntmps42
  go_wp2_with (at_builtin; refine Kd.R_append (Kd.int .u8) (w0 := w) B rfl (.tmp 18) (.tmp 19) 80 5 (.int .u8 0) 1 rfl Tryd.underlying80 info5 rfl (by decide) (by omega) v l 1 [.int .u8 1] (fun _ => True) (fun _ => False) rfl rfl rfl (fun _ hk => hk.elim) (fun _ _ => trivial) HO.out (Below.refl _ _) HS.out (by omega) ?_; intro v1 w9 ho hb hg hat; rw [LS.out] at ho; obtain ⟨A1, c1, e1⟩ := Kd.R_slice ho; subst e1; have HW := Aside0.mk (wr_step HV.out HG.out HO.out (Below.refl _ _) ho hb hg); have hcc := HW.out.cell; have hff := HW.out.free; clear ho hb hg hat hc)
  refine bodyPost_end (results_none rfl _ _ _) rfl ?_
  exact ⟨rfl, HW.out.at_, HW.out.bel, HW.out.keep⟩
theorem wr_bool (B g : Nat) (l : List Int) (b : Bool) (w : World) (hB : B ≤ w.heap.size) (h : WrAt B g l w) (hl : l.length ≤ wrMax) :
    Calls Tryd.prog 42 #[.pointer (some ⟨g, 0, none⟩), .bool b] w fun e w' => WrPost B g (l ++ [if b = true then 2 else 1]) w (.tuple #[]) e w' := by
  cases b
  · exact wr_bool_false B g l w hB h hl
  · exact wr_bool_true B g l w hB h hl
set_option maxHeartbeats 8000000 in
set_option maxRecDepth 100000 in
theorem wr_unsigned (k k2 : Nat) (B g : Nat) (l : List Int) (n wd : Int) (bs : List Int) (w : World) (hG : Aside0 (Glob w)) (hB : B ≤ w.heap.size) (h : WrAt B g l w) (hl : l.length + bs.length ≤ wrMax) (hw : Aside0 (codec_width.f k n = some wd)) (hn : Aside0 (codec_number.f k2 16 n wd = some bs)) :
    Calls Tryd.prog 40 #[.pointer (some ⟨g, 0, none⟩), .int .u64 n] w fun e w' => WrPost B g (l ++ bs) w (.tuple #[]) e w' := by
  obtain ⟨v, hv, hg, ho⟩ := h
  unfold wrMax at hl
  have HV := Aside0.mk hv
  have HO := Aside0.mk ho
  have HG := Aside0.mk hg
  have HS := Aside0.mk hB
  have hc := (blk_cell hv 0).trans rfl
  clear hv ho hg hB
  obtain ⟨ls, LS⟩ : ∃ ls, Aside0 (l ++ bs = ls) := ⟨_, ⟨rfl⟩⟩
  rw [LS.out]
  go_enter Tryd.func40, Tryd.ntmps40
  try go_wp2
  refine start_ (n := 13) (S := fun w' => w'.cell? ⟨g, 0, none⟩ = some v) (ds := [12]) #[false, false, false, false, false, false, false, false, false, false, false, false, false] (by kernel_rfl) rfl rfl (hc) (fun hHeld => ?_)
  refine pure_ (i := 0) (N := some 4) (v := ?_) (a' := ?_) #[true, false, false, false, false, false, false, false, false, false, false, false, false] rfl rfl (by kernel_rfl) (fun _ _ _ h => h) (Or.inl ⟨by rfl, ?_⟩) ?_ ?_
  rotate_left
  · intro w'
    go_simp
    with_reducible rfl
  rotate_left
  · simp only [Act.put, List.setIfInBounds_toArray, List.set_cons_zero, List.set_cons_succ, i64_w, i32_w]
    rfl
  refine pure_ (i := 1) (N := some 5) (v := ?_) (a' := ?_) #[true, true, false, false, false, false, false, false, false, false, false, false, false] rfl rfl (by kernel_rfl) (fun _ _ _ h => h) (Or.inl ⟨by rfl, ?_⟩) ?_ ?_
  rotate_left
  · intro w'
    go_simp
    with_reducible rfl
  rotate_left
  · simp only [Act.put, List.setIfInBounds_toArray, List.set_cons_zero, List.set_cons_succ, i64_w, i32_w]
    rfl
  refine pure_ (i := 2) (N := some 6) (v := ?_) (a' := ?_) #[true, true, true, false, false, false, false, false, false, false, false, false, false] rfl rfl (by kernel_rfl) (fun _ _ _ h => h) (Or.inl ⟨by rfl, ?_⟩) ?_ ?_
  rotate_left
  · intro w'
    go_simp
    with_reducible rfl
  rotate_left
  · simp only [Act.put, List.setIfInBounds_toArray, List.set_cons_zero, List.set_cons_succ, i64_w, i32_w]
    rfl
  refine pure_ (i := 3) (N := some 7) (v := ?_) (a' := ?_) #[true, true, true, true, false, false, false, false, false, false, false, false, false] rfl rfl (by kernel_rfl) (fun _ _ _ h => h) (Or.inl ⟨by rfl, ?_⟩) ?_ ?_
  rotate_left
  · intro w'
    go_simp
    with_reducible rfl
  rotate_left
  · simp only [Act.put, List.setIfInBounds_toArray, List.set_cons_zero, List.set_cons_succ, i64_w, i32_w]
    rfl
  refine pure_ (i := 5) (N := some 9) (v := ?_) (a' := ?_) #[true, true, true, true, false, true, false, false, false, false, false, false, false] rfl rfl (by kernel_rfl) (fun _ _ _ h => h) (Or.inl ⟨by rfl, ?_⟩) ?_ ?_
  rotate_left
  · intro w'
    go_simp
    with_reducible rfl
  rotate_left
  · simp only [Act.put, List.setIfInBounds_toArray, List.set_cons_zero, List.set_cons_succ, i64_w, i32_w]
    rfl
  refine pure_ (i := 6) (N := some 10) (v := ?_) (a' := ?_) #[true, true, true, true, false, true, true, false, false, false, false, false, false] rfl rfl (by kernel_rfl) (fun _ _ _ h => h) (Or.inl ⟨by rfl, ?_⟩) ?_ ?_
  rotate_left
  · intro w'
    go_simp
    with_reducible rfl
  rotate_left
  · simp only [Act.put, List.setIfInBounds_toArray, List.set_cons_zero, List.set_cons_succ, i64_w, i32_w]
    rfl
  refine take_ (i := 4) (N := some 8) (v := ?_) (a' := ?_) #[true, true, true, true, true, true, true, false, false, false, false, false, false] rfl rfl (by kernel_rfl) (fun _ _ _ h => h) (Or.inl ⟨by rfl, ?_⟩) hHeld ?_ ?_
  rotate_left
  · intro w' s0
    go_simp
    with_reducible rfl
  rotate_left
  · simp only [Act.put, List.setIfInBounds_toArray, List.set_cons_zero, List.set_cons_succ, i64_w, i32_w]
    rfl
  refine one_ (i := 7) (N := some 11) #[true, true, true, true, true, true, true, true, false, false, false, false, false] rfl rfl (by kernel_rfl) (by decide) (fun K hK => ?_)
  refine goes_ Tryd.func69 (by kernel_rfl) rfl #[.int .u64 n] (by rfl) rfl rfl (by simp only [List.map_toArray, List.map_cons, List.map_nil]; rfl) ?_
  with_reducible refine (codec_width.calls k n wd _ (Glob.below hG.out (below_drew1 (Below.refl _ _))) hw.out).mono ?_
  rintro e w7 ⟨rfl, hb7⟩
  refine ⟨_, rfl, ?_⟩
  have HB7 := Aside0.mk (below_step (below_drew1 (Below.refl w.heap.size w)) hb7)
  have hk := Aside0.mk hb7
  clear hb7
  refine hK.out _ _ (pw_cell_below hk.out hHeld) (fun hHeld => ?_)
  clear hK K
  refine norm_ (a' := ?_) ?_ ?_
  rotate_left
  · show Act.put _ (some 11) _ = _
    simp only [Act.put, List.setIfInBounds_toArray, List.set_cons_zero, List.set_cons_succ, i64_w, i32_w]
    rfl
  refine one_ (i := 8) (N := some 12) #[true, true, true, true, true, true, true, true, true, false, false, false, false] rfl rfl (by kernel_rfl) (by decide) (fun K hK => ?_)
  refine goes_ Tryd.func68 (by kernel_rfl) rfl #[.int .u8 16, .int .u64 n, .int .i64 wd] (by rfl) rfl rfl (by simp only [List.map_toArray, List.map_cons, List.map_nil]; rfl) ?_
  with_reducible refine (codec_number.calls k2 16 n wd bs _ (Glob.below hG.out HB7.out) hn.out).mono ?_
  rintro e w8 ⟨v2, rfl, hv2, hb8⟩
  refine ⟨_, rfl, ?_⟩
  have HB8 := Aside0.mk (below_step HB7.out hb8)
  obtain ⟨A2, c2, e2⟩ := Kd.R_slice hv2
  subst e2
  have HR2 := Aside0.mk hv2
  have hk := Aside0.mk hb8
  clear hb8 hv2 HB7
  refine hK.out _ _ (pw_cell_below hk.out hHeld) (fun hHeld => ?_)
  clear hK K
  refine norm_ (a' := ?_) ?_ ?_
  rotate_left
  · show Act.put _ (some 12) _ = _
    simp only [Act.put, List.setIfInBounds_toArray, List.set_cons_zero, List.set_cons_succ, i64_w, i32_w]
    rfl
  refine one_ (i := 9) (N := some 13) #[true, true, true, true, true, true, true, true, true, true, false, false, false] rfl rfl (by kernel_rfl) (by decide) (fun K hK => ?_)
  refine Kd.R_append_rows_step (Kd.int .u8) (w0 := w) B (by rfl) (.tmp 8) (.tmp 12) 80 5 (.int .u8 0) 1 rfl Tryd.underlying80 info5 rfl (by decide) (by omega) v l bs _ _ _ (fun _ => True) (fun _ => False) rfl rfl (Kd.R_below HO.out HB8.out) (Kd.R_reads' HR2.out).2.2 (fun _ _ h => h) (fun _ h => h.elim) (fun _ _ => trivial) (HB8.out.mono HS.out) (Nat.le_trans HS.out HB8.out.size) (by omega) ?_
  intro v1 w9 ho hb hg hat
  rw [LS.out] at ho
  obtain ⟨A1, c1, e1⟩ := Kd.R_slice ho
  subst e1
  have HW := Aside0.mk (wr_step HV.out HG.out HO.out HB8.out ho hb hg)
  have hcc := HW.out.cell
  have hff := HW.out.free
  clear ho hb hg hat
  refine hK.out _ _ (hcc) (fun hHeld => ?_)
  clear hK K
  refine norm_ (a' := ?_) ?_ ?_
  rotate_left
  · show Act.put _ (some 13) _ = _
    simp only [Act.put, List.setIfInBounds_toArray, List.set_cons_zero, List.set_cons_succ, i64_w, i32_w]
    rfl
  refine pure_ (i := 10) (N := some 14) (v := ?_) (a' := ?_) #[true, true, true, true, true, true, true, true, true, true, true, false, false] rfl rfl (by kernel_rfl) (fun _ _ _ h => h) (Or.inl ⟨by rfl, ?_⟩) ?_ ?_
  rotate_left
  · intro w'
    go_simp
    with_reducible rfl
  rotate_left
  · simp only [Act.put, List.setIfInBounds_toArray, List.set_cons_zero, List.set_cons_succ, i64_w, i32_w]
    rfl
  refine pure_ (i := 11) (N := some 15) (v := ?_) (a' := ?_) #[true, true, true, true, true, true, true, true, true, true, true, true, false] rfl rfl (by kernel_rfl) (fun _ _ _ h => h) (Or.inl ⟨by rfl, ?_⟩) ?_ ?_
  rotate_left
  · intro w'
    go_simp
    with_reducible rfl
  rotate_left
  · simp only [Act.put, List.setIfInBounds_toArray, List.set_cons_zero, List.set_cons_succ, i64_w, i32_w]
    rfl
  refine last_ (i := 12) (N := none) #[true, true, true, true, true, true, true, true, true, true, true, true, true] rfl rfl (by kernel_rfl) (by decide) (fun K hK => ?_)
  refine skip_ (w1 := ?_) (by rfl) rfl ?_ ?_
  rotate_left
  · go_simp
    rfl
  refine hK.out _ _ ?_
  clear hK K
  refine done_ (by kernel_rfl) ?_
  try go_wp2
  refine bodyPost_end (results_none rfl _ _ _) rfl ?_
  exact ⟨rfl, HW.out.at_, HW.out.bel, HW.out.keep⟩
set_option maxHeartbeats 8000000 in
set_option maxRecDepth 100000 in
theorem wr_signed (k k2 : Nat) (B g : Nat) (l : List Int) (n wd : Int) (bs : List Int) (w : World) (hG : Aside0 (Glob w)) (hB : B ≤ w.heap.size) (h : WrAt B g l w) (hl : l.length + bs.length ≤ wrMax) (hw : Aside0 (codec_spread.f k n = some wd)) (hn : Aside0 (codec_number.f k2 32 (IntKind.u64.wrap n) wd = some bs)) :
    Calls Tryd.prog 41 #[.pointer (some ⟨g, 0, none⟩), .int .i64 n] w fun e w' => WrPost B g (l ++ bs) w (.tuple #[]) e w' := by
  obtain ⟨v, hv, hg, ho⟩ := h
  unfold wrMax at hl
  have HV := Aside0.mk hv
  have HO := Aside0.mk ho
  have HG := Aside0.mk hg
  have HS := Aside0.mk hB
  have hc := (blk_cell hv 0).trans rfl
  clear hv ho hg hB
  obtain ⟨ls, LS⟩ : ∃ ls, Aside0 (l ++ bs = ls) := ⟨_, ⟨rfl⟩⟩
  rw [LS.out]
  go_enter Tryd.func41, Tryd.ntmps41
  try go_wp2
  refine start_ (n := 14) (S := fun w' => w'.cell? ⟨g, 0, none⟩ = some v) (ds := [13]) #[false, false, false, false, false, false, false, false, false, false, false, false, false, false] (by kernel_rfl) rfl rfl (hc) (fun hHeld => ?_)
  refine pure_ (i := 0) (N := some 4) (v := ?_) (a' := ?_) #[true, false, false, false, false, false, false, false, false, false, false, false, false, false] rfl rfl (by kernel_rfl) (fun _ _ _ h => h) (Or.inl ⟨by rfl, ?_⟩) ?_ ?_
  rotate_left
  · intro w'
    go_simp
    with_reducible rfl
  rotate_left
  · simp only [Act.put, List.setIfInBounds_toArray, List.set_cons_zero, List.set_cons_succ, i64_w, i32_w]
    rfl
  refine pure_ (i := 1) (N := some 5) (v := ?_) (a' := ?_) #[true, true, false, false, false, false, false, false, false, false, false, false, false, false] rfl rfl (by kernel_rfl) (fun _ _ _ h => h) (Or.inl ⟨by rfl, ?_⟩) ?_ ?_
  rotate_left
  · intro w'
    go_simp
    with_reducible rfl
  rotate_left
  · simp only [Act.put, List.setIfInBounds_toArray, List.set_cons_zero, List.set_cons_succ, i64_w, i32_w]
    rfl
  refine pure_ (i := 2) (N := some 6) (v := ?_) (a' := ?_) #[true, true, true, false, false, false, false, false, false, false, false, false, false, false] rfl rfl (by kernel_rfl) (fun _ _ _ h => h) (Or.inl ⟨by rfl, ?_⟩) ?_ ?_
  rotate_left
  · intro w'
    go_simp
    with_reducible rfl
  rotate_left
  · simp only [Act.put, List.setIfInBounds_toArray, List.set_cons_zero, List.set_cons_succ, i64_w, i32_w]
    rfl
  refine pure_ (i := 3) (N := some 7) (v := ?_) (a' := ?_) #[true, true, true, true, false, false, false, false, false, false, false, false, false, false] rfl rfl (by kernel_rfl) (fun _ _ _ h => h) (Or.inl ⟨by rfl, ?_⟩) ?_ ?_
  rotate_left
  · intro w'
    go_simp
    with_reducible rfl
  rotate_left
  · simp only [Act.put, List.setIfInBounds_toArray, List.set_cons_zero, List.set_cons_succ, i64_w, i32_w]
    rfl
  refine pure_ (i := 5) (N := some 9) (v := ?_) (a' := ?_) #[true, true, true, true, false, true, false, false, false, false, false, false, false, false] rfl rfl (by kernel_rfl) (fun _ _ _ h => h) (Or.inl ⟨by rfl, ?_⟩) ?_ ?_
  rotate_left
  · intro w'
    go_simp
    with_reducible rfl
  rotate_left
  · simp only [Act.put, List.setIfInBounds_toArray, List.set_cons_zero, List.set_cons_succ, i64_w, i32_w]
    rfl
  refine pure_ (i := 6) (N := some 10) (v := ?_) (a' := ?_) #[true, true, true, true, false, true, true, false, false, false, false, false, false, false] rfl rfl (by kernel_rfl) (fun _ _ _ h => h) (Or.inl ⟨by rfl, ?_⟩) ?_ ?_
  rotate_left
  · intro w'
    go_simp
    with_reducible rfl
  rotate_left
  · simp only [Act.put, List.setIfInBounds_toArray, List.set_cons_zero, List.set_cons_succ, i64_w, i32_w]
    rfl
  refine pure_ (i := 7) (N := some 11) (v := ?_) (a' := ?_) #[true, true, true, true, false, true, true, true, false, false, false, false, false, false] rfl rfl (by kernel_rfl) (fun _ _ _ h => h) (Or.inl ⟨by rfl, ?_⟩) ?_ ?_
  rotate_left
  · intro w'
    go_simp
    with_reducible rfl
  rotate_left
  · simp only [Act.put, List.setIfInBounds_toArray, List.set_cons_zero, List.set_cons_succ, i64_w, i32_w]
    rfl
  refine take_ (i := 4) (N := some 8) (v := ?_) (a' := ?_) #[true, true, true, true, true, true, true, true, false, false, false, false, false, false] rfl rfl (by kernel_rfl) (fun _ _ _ h => h) (Or.inl ⟨by rfl, ?_⟩) hHeld ?_ ?_
  rotate_left
  · intro w' s0
    go_simp
    with_reducible rfl
  rotate_left
  · simp only [Act.put, List.setIfInBounds_toArray, List.set_cons_zero, List.set_cons_succ, i64_w, i32_w]
    rfl
  refine one_ (i := 8) (N := some 12) #[true, true, true, true, true, true, true, true, true, false, false, false, false, false] rfl rfl (by kernel_rfl) (by decide) (fun K hK => ?_)
  refine goes_ Tryd.func70 (by kernel_rfl) rfl #[.int .i64 n] (by rfl) rfl rfl (by simp only [List.map_toArray, List.map_cons, List.map_nil]; rfl) ?_
  with_reducible refine (codec_spread.calls k n wd _ (Glob.below hG.out (below_drew1 (Below.refl _ _))) hw.out).mono ?_
  rintro e w7 ⟨rfl, ⟨nd, rfl⟩⟩
  refine ⟨_, rfl, ?_⟩
  have HB7 := Aside0.mk (pw_below_drewN (below_drew1 (Below.refl w.heap.size w)) nd)
  refine hK.out _ _ (hHeld) (fun hHeld => ?_)
  clear hK K
  refine norm_ (a' := ?_) ?_ ?_
  rotate_left
  · show Act.put _ (some 12) _ = _
    simp only [Act.put, List.setIfInBounds_toArray, List.set_cons_zero, List.set_cons_succ, i64_w, i32_w]
    rfl
  refine one_ (i := 9) (N := some 13) #[true, true, true, true, true, true, true, true, true, true, false, false, false, false] rfl rfl (by kernel_rfl) (by decide) (fun K hK => ?_)
  refine goes_ Tryd.func68 (by kernel_rfl) rfl #[.int .u8 32, .int .u64 (IntKind.u64.wrap n), .int .i64 wd] (by rfl) rfl rfl (by simp only [List.map_toArray, List.map_cons, List.map_nil]; rfl) ?_
  with_reducible refine (codec_number.calls k2 32 (IntKind.u64.wrap n) wd bs _ (Glob.below hG.out HB7.out) hn.out).mono ?_
  rintro e w8 ⟨v2, rfl, hv2, hb8⟩
  refine ⟨_, rfl, ?_⟩
  have HB8 := Aside0.mk (below_step HB7.out hb8)
  obtain ⟨A2, c2, e2⟩ := Kd.R_slice hv2
  subst e2
  have HR2 := Aside0.mk hv2
  have hk := Aside0.mk hb8
  clear hb8 hv2 HB7
  refine hK.out _ _ (pw_cell_below hk.out hHeld) (fun hHeld => ?_)
  clear hK K
  refine norm_ (a' := ?_) ?_ ?_
  rotate_left
  · show Act.put _ (some 13) _ = _
    simp only [Act.put, List.setIfInBounds_toArray, List.set_cons_zero, List.set_cons_succ, i64_w, i32_w]
    rfl
  refine one_ (i := 10) (N := some 14) #[true, true, true, true, true, true, true, true, true, true, true, false, false, false] rfl rfl (by kernel_rfl) (by decide) (fun K hK => ?_)
  refine Kd.R_append_rows_step (Kd.int .u8) (w0 := w) B (by rfl) (.tmp 8) (.tmp 13) 80 5 (.int .u8 0) 1 rfl Tryd.underlying80 info5 rfl (by decide) (by omega) v l bs _ _ _ (fun _ => True) (fun _ => False) rfl rfl (Kd.R_below HO.out HB8.out) (Kd.R_reads' HR2.out).2.2 (fun _ _ h => h) (fun _ h => h.elim) (fun _ _ => trivial) (HB8.out.mono HS.out) (Nat.le_trans HS.out HB8.out.size) (by omega) ?_
  intro v1 w9 ho hb hg hat
  rw [LS.out] at ho
  obtain ⟨A1, c1, e1⟩ := Kd.R_slice ho
  subst e1
  have HW := Aside0.mk (wr_step HV.out HG.out HO.out HB8.out ho hb hg)
  have hcc := HW.out.cell
  have hff := HW.out.free
  clear ho hb hg hat
  refine hK.out _ _ (hcc) (fun hHeld => ?_)
  clear hK K
  refine norm_ (a' := ?_) ?_ ?_
  rotate_left
  · show Act.put _ (some 14) _ = _
    simp only [Act.put, List.setIfInBounds_toArray, List.set_cons_zero, List.set_cons_succ, i64_w, i32_w]
    rfl
  refine pure_ (i := 11) (N := some 15) (v := ?_) (a' := ?_) #[true, true, true, true, true, true, true, true, true, true, true, true, false, false] rfl rfl (by kernel_rfl) (fun _ _ _ h => h) (Or.inl ⟨by rfl, ?_⟩) ?_ ?_
  rotate_left
  · intro w'
    go_simp
    with_reducible rfl
  rotate_left
  · simp only [Act.put, List.setIfInBounds_toArray, List.set_cons_zero, List.set_cons_succ, i64_w, i32_w]
    rfl
  refine pure_ (i := 12) (N := some 16) (v := ?_) (a' := ?_) #[true, true, true, true, true, true, true, true, true, true, true, true, true, false] rfl rfl (by kernel_rfl) (fun _ _ _ h => h) (Or.inl ⟨by rfl, ?_⟩) ?_ ?_
  rotate_left
  · intro w'
    go_simp
    with_reducible rfl
  rotate_left
  · simp only [Act.put, List.setIfInBounds_toArray, List.set_cons_zero, List.set_cons_succ, i64_w, i32_w]
    rfl
  refine last_ (i := 13) (N := none) #[true, true, true, true, true, true, true, true, true, true, true, true, true, true] rfl rfl (by kernel_rfl) (by decide) (fun K hK => ?_)
  refine skip_ (w1 := ?_) (by rfl) rfl ?_ ?_
  rotate_left
  · go_simp
    rfl
  refine hK.out _ _ ?_
  clear hK K
  refine done_ (by kernel_rfl) ?_
  try go_wp2
  refine bodyPost_end (results_none rfl _ _ _) rfl ?_
  exact ⟨rfl, HW.out.at_, HW.out.bel, HW.out.keep⟩
theorem Glob.base {B : Nat} {w w1 : World} (hG : Glob w) (h0 : 0 < B) (hb : Below B w w1) : Glob w1 := by
  obtain ⟨t, h⟩ := hG
  exact ⟨t, (hb.block 0 h0).trans h⟩
set_option maxHeartbeats 8000000 in
set_option maxRecDepth 100000 in
theorem wr_list (k k2 : Nat) (B g : Nat) (l : List Int) (n wd : Int) (bs : List Int) (w : World) (hG : Aside0 (Glob w)) (h0 : 0 < B) (hB : B ≤ w.heap.size) (h : WrAt B g l w) (hl : l.length + 1 + bs.length ≤ wrMax) (hr : 0 ≤ n ∧ n ≤ 65535) (hw' : Aside0 (codec_width.f k n = some wd)) (hn' : Aside0 (codec_number.f k2 16 n wd = some bs)) :
    Calls Tryd.prog 39 #[.pointer (some ⟨g, 0, none⟩), .int .i64 n] w fun e w' => WrPost B g (l ++ [64] ++ bs) w (.int .i64 0) e w' := by
  have hwn : IntKind.u64.wrap n = n := by
    show n % 18446744073709551616 = n
    omega
  have hw : Aside0 (codec_width.f k (IntKind.u64.wrap n) = some wd) := ⟨by rw [hwn]; exact hw'.out⟩
  have hn : Aside0 (codec_number.f k2 16 (IntKind.u64.wrap n) wd = some bs) := ⟨by rw [hwn]; exact hn'.out⟩
  clear hw' hn' hwn
  obtain ⟨v, hv, hg, ho⟩ := h
  unfold wrMax at hl
  have HV := Aside0.mk hv
  have HO := Aside0.mk ho
  have HG := Aside0.mk hg
  have HS := Aside0.mk hB
  have hc := (blk_cell hv 0).trans rfl
  clear hv ho hg hB
  obtain ⟨ls, LS⟩ : ∃ ls, Aside0 (l ++ [64] = ls) := ⟨_, ⟨rfl⟩⟩
  rw [LS.out]
  have hl2 : ls.length + bs.length ≤ wrMax := by rw [← LS.out]; simp [wrMax]; omega
  have hb0 : decide (n < 0) = false := decide_eq_false (by omega)
  have hb1 : decide (65535 < n) = false := decide_eq_false (by omega)
  have H0 := Aside0.mk h0
  clear hr h0
  go_enter Tryd.func39, Tryd.ntmps39
  go_wp2_with (first | (at_builtin; refine Kd.R_append (Kd.int .u8) (w0 := w) B rfl (.tmp 15) (.tmp 16) 80 5 (.int .u8 0) 1 rfl Tryd.underlying80 info5 rfl (by decide) (by omega) v l 64 [.int .u8 64] (fun _ => True) (fun _ => False) rfl rfl rfl (fun _ hk => hk.elim) (fun _ _ => trivial) HO.out (Below.refl _ _) HS.out (by omega) ?_; intro v1 w9 ho hb hg hat; rw [LS.out] at ho; obtain ⟨A1, c1, e1⟩ := Kd.R_slice ho; subst e1; have HW := Aside0.mk (wr_step HV.out HG.out HO.out (Below.refl _ _) ho hb hg); have hcc := HW.out.cell; have hff := HW.out.free; clear ho hb hg hat hc) | (go_at_call 40; (with_reducible refine (wr_unsigned k k2 B g ls _ wd bs _ ⟨Glob.base hG.out H0.out HW.out.bel⟩ (Nat.le_trans HS.out HW.out.keep.size) HW.out.at_ hl2 hw hn).mono ?_); rintro e w5 ⟨rfl, ha, hb, hk⟩; have HA := Aside0.mk ha; have HBB := Aside0.mk (HW.out.bel.trans hb); have HKK := Aside0.mk (HW.out.keep.trans hk); clear ha hb hk))
  go_ret
  exact ⟨rfl, HA.out, HBB.out, HKK.out⟩
theorem wr_step2 {B g : Nat} {l l' : List Int} {w w1 : World} {v v1 : Value} (hv : w.heap[g]? = some (.cells #[v] 82 (0, 0))) (hg : B ≤ g) (ho : Kd.R (Kd.int .u8) 5 w B (fun _ => True) v l)
    (ho1 : Kd.R (Kd.int .u8) 5 w1 B (fun _ => True) v1 l') (hbel : Below B w w1) (hgr : w.grownBy w1 v.ownBlock) : WrStep B g l' w w1 v v1 := wr_step hv hg ho (Below.refl _ _) ho1 hbel hgr
theorem R_of_own {w : World} {B : Nat} {v : Value} {l : List Int} (h : w.ownsRow B 5 1 v l.length (nums .u8 l)) : Kd.R (Kd.int .u8) 5 w B (fun _ => True) v l := by
  refine ⟨fun _ _ => trivial, nums .u8 l, h, ?_⟩
  refine ⟨by show (nums .u8 l).length = l.length * 1; simp [nums], fun j p hj => ?_⟩
  obtain ⟨hl, hp⟩ := List.getElem?_eq_some_iff.1 hj
  have hlt : j < (nums .u8 l).length := by simpa [nums] using hl
  show List.take 1 (List.drop (j * 1) (nums .u8 l)) = [.int .u8 p]
  rw [Nat.mul_one, List.drop_eq_getElem_cons hlt]
  simp [nums, hp]
set_option maxHeartbeats 8000000 in
set_option maxRecDepth 100000 in
theorem wr_text (k k2 : Nat) (B g : Nat) (l : List Int) (s : ByteArray) (wd : Int) (bs : List Int) (w : World) (hG : Aside0 (Glob w)) (h0 : 0 < B) (hB : B ≤ w.heap.size) (h : WrAt B g l w) (hl : l.length + 1 + bs.length + s.size ≤ wrMax) (hr : s.size ≤ 65535) (hw : Aside0 (codec_width.f k (s.size : Int) = some wd)) (hn : Aside0 (codec_number.f k2 16 (s.size : Int) wd = some bs)) :
    Calls Tryd.prog 43 #[.pointer (some ⟨g, 0, none⟩), .string s] w fun e w' => WrPost B g (l ++ [48] ++ bs ++ bytesOf s) w (.int .i64 0) e w' := by
  obtain ⟨v, hv, hg, ho⟩ := h
  unfold wrMax at hl
  have HV := Aside0.mk hv
  have HO := Aside0.mk ho
  have HG := Aside0.mk hg
  have HS := Aside0.mk hB
  have hc := (blk_cell hv 0).trans rfl
  clear hv ho hg hB
  obtain ⟨ls, LS⟩ : ∃ ls, Aside0 (l ++ [48] = ls) := ⟨_, ⟨rfl⟩⟩
  rw [LS.out]
  obtain ⟨l2, L2⟩ : ∃ l2, Aside0 (ls ++ bs = l2) := ⟨_, ⟨rfl⟩⟩
  rw [L2.out]
  obtain ⟨l3, L3⟩ : ∃ l3, Aside0 (l2 ++ bytesOf s = l3) := ⟨_, ⟨rfl⟩⟩
  rw [L3.out]
  have hl2 : ls.length + bs.length ≤ wrMax := by rw [← LS.out]; simp [wrMax]; omega
  have hl3 := Aside0.mk (show l2.length + s.size ≤ 140737488355328 by rw [← L2.out, ← LS.out]; simp; omega)
  have hb0 : decide (65535 < (s.size : Int)) = false := decide_eq_false (by omega)
  have hb1 : decide (65535 < s.size) = false := decide_eq_false (by omega)
  have H0 := Aside0.mk h0
  clear hr h0
  go_enter Tryd.func43, Tryd.ntmps43
  go_wp2_with (first | (at_builtin; refine Kd.R_append (Kd.int .u8) (w0 := w) B rfl (.tmp 12) (.tmp 13) 80 5 (.int .u8 0) 1 rfl Tryd.underlying80 info5 rfl (by decide) (by omega) v l 48 [.int .u8 48] (fun _ => True) (fun _ => False) rfl rfl rfl (fun _ hk => hk.elim) (fun _ _ => trivial) HO.out (Below.refl _ _) HS.out (by omega) ?_; intro v1 w9 ho hb hg hat; rw [LS.out] at ho; obtain ⟨A1, c1, e1⟩ := Kd.R_slice ho; subst e1; have HW := Aside0.mk (wr_step HV.out HG.out HO.out (Below.refl _ _) ho hb hg); have hcc := HW.out.cell; have hff := HW.out.free; clear ho hb hg hat hc) | ((go_at_call 40; (with_reducible refine (wr_unsigned k k2 B g ls _ wd bs _ ⟨Glob.base hG.out H0.out HW.out.bel⟩ (Nat.le_trans HS.out HW.out.keep.size) HW.out.at_ hl2 hw hn).mono ?_); rintro e w5 ⟨rfl, ha, hb, hk⟩; have HA := Aside0.mk ha; have HBB := Aside0.mk (HW.out.bel.trans hb); have HKK := Aside0.mk (HW.out.keep.trans hk); clear ha hb hk); rw [L2.out] at HA; obtain ⟨v2, hv2, _, ho2⟩ := HA.out; obtain ⟨A2, c2, e2⟩ := Kd.R_slice ho2; subst e2; have HV2 := Aside0.mk hv2; have HO2 := Aside0.mk ho2; have HN2 : Aside0 (w5.ownsRow B 5 1 (.slice A2 l2.length c2) l2.length (nums .u8 l2)) := ⟨Kd.own_of_R ho2⟩; have hc2 := (blk_cell hv2 0).trans rfl; clear hv2 ho2 HA) | (refine print_append_str (w0 := w5) B rfl (.tmp 26) (.tmp 27) 80 9 5 rfl Tryd.underlying80 Tryd.underlying9 info5 (.slice A2 l2.length c2) l2 s ?h1 ?h2 ?aO ?aB ?aS ?aL ?_; (case h1 => rfl); (case h2 => rfl); (case aO => exact HN2.out); (case aB => exact Below.refl _ _); (case aS => exact Nat.le_trans HS.out HKK.out.size); (case aL => exact hl3.out); intro v3 w9 ho hb hg; have ho' := R_of_own ho; rw [L3.out] at ho'; obtain ⟨A3, c3, e3⟩ := Kd.R_slice ho'; subst e3; have HW3 := Aside0.mk (wr_step2 HV2.out HG.out HO2.out ho' hb hg); have hcc3 := HW3.out.cell; have hff3 := HW3.out.free; clear ho ho' hb hg hc2))
  go_ret
  exact ⟨rfl, HW3.out.at_, HBB.out.trans HW3.out.bel, HKK.out.trans HW3.out.keep⟩
set_option maxHeartbeats 8000000 in
set_option maxRecDepth 100000 in
theorem wr_data (B g : Nat) (l : List Int) (w : World) (h : WrAt B g l w) :
    Calls Tryd.prog 44 #[.pointer (some ⟨g, 0, none⟩)] w fun e w' => e = .returned (.string (strOfNums l)) ∧ w' = w := by
  obtain ⟨v, hv, hg, ho⟩ := h
  obtain ⟨A1, c1, e1⟩ := Kd.R_slice ho
  subst e1
  have hc := (blk_cell hv 0).trans rfl
  have hcv := own_string (w := w) (P := Tryd.prog) Tryd.underlying80 Tryd.underlying5 Tryd.underlying9 (Kd.own_of_R ho)
  clear hv ho hg
  go_enter Tryd.func44, Tryd.ntmps44
  go_wp2
  go_ret
  exact ⟨rfl, rfl⟩
end Go.Proofs.YtbgabhknmpbgiaaDoor.S
end
section
namespace Go.Proofs.YtbgabhknmpbgiaaDoor.S
open Go.RowKit Go.Proofs.YtbgabhknmpbgiaaDoor.Pure Go.Proofs.YtbgabhknmpbgiaaDoorW.PrintWords Go.Proofs.YtbgabhknmpbgiaaDoorW.PrintLast Go.Proofs.YtbgabhknmpbgiaaDoorW.PrintMore
set_option linter.unusedVariables false
set_option linter.unusedSimpArgs false
attribute [local go_sem] max2_int min2_int max_two min_two
def encB (x : S23) : List Int := [] ++ [64] ++ uB 6 ++ uB x.f0 ++ uB x.f1 ++ sB x.f2 ++ [if x.f3 = true then 2 else 1] ++ uB x.f4 ++ [48] ++ uB (x.f5.size : Int) ++ bytesOf x.f5
structure Ok23 (x : S23) : Prop where
  k0 : 0 ≤ x.f0
  k1 : x.f0 ≤ 3
  i0 : 0 ≤ x.f1
  i1 : x.f1 ≤ 255
  n0 : -1 ≤ x.f2
  n1 : x.f2 ≤ 63
  w0 : 0 ≤ x.f4
  w1 : x.f4 ≤ 16
  t : x.f5.size ≤ 400
def EncPost (w : World) (s : ByteArray) (e0 : Int) (e : Ending) (w' : World) : Prop := e = .returned (.tuple #[.string s, .int .i64 e0]) ∧ Below w.heap.size w w'
set_option maxHeartbeats 16000000 in
set_option maxRecDepth 100000 in
theorem encode_calls (k : Nat) (x : S23) (e0 : Int) (w : World) (hG : Glob w) (hc : segment_Check.f k x.f0 x.f1 x.f2 x.f3 x.f4 x.f5 = some e0) (hr : e0 = 0 → Ok23 x) :
    Calls Tryd.prog 13 #[.agg #[.int .i64 x.f0, .int .i64 x.f1, .int .i64 x.f2, .bool x.f3, .int .i64 x.f4, .string x.f5]] w fun e w' => EncPost w (if e0 = 0 then strOfNums (encB x) else ⟨#[]⟩) e0 e w' := by
  have HG := Aside0.mk hG
  have HCK := Aside0.mk hc
  have H0 := Aside0.mk (show 0 < w.heap.size by obtain ⟨t, h⟩ := hG; exact blk_lt h)
  clear hG hc
  by_cases z : e0 = 0
  · have zb : (e0 != 0) = false := by rw [z]; rfl
    obtain ⟨hk0, hk1, hi0, hi1, hn0, hn1, hw0, hw1, ht⟩ := hr z
    rw [if_pos z]
    have HZ := Aside0.mk z
    have HN6 := Aside0.mk (numUn 0 6 (by omega) (by omega))
    have HD6 := Aside0.mk (width_eq 0 6 (by omega) (by omega))
    have HNk := Aside0.mk (numUn 0 x.f0 (by omega) (by omega))
    have HDk := Aside0.mk (width_eq 0 x.f0 (by omega) (by omega))
    have HNi := Aside0.mk (numUn 0 x.f1 (by omega) (by omega))
    have HDi := Aside0.mk (width_eq 0 x.f1 (by omega) (by omega))
    have HNw := Aside0.mk (numUn 0 x.f4 (by omega) (by omega))
    have HDw := Aside0.mk (width_eq 0 x.f4 (by omega) (by omega))
    have HNt := Aside0.mk (numUn 0 (x.f5.size : Int) (by omega) (by omega))
    have HDt := Aside0.mk (width_eq 0 (x.f5.size : Int) (by omega) (by omega))
    have HNn := Aside0.mk (numSg 0 x.f2 (by omega) (by omega))
    have HDn := Aside0.mk (spread_eq 0 x.f2 (by omega) (by omega))
    obtain ⟨L1, HL1⟩ : ∃ l, Aside0 ([] ++ [64] ++ uB 6 = l) := ⟨_, ⟨rfl⟩⟩
    obtain ⟨L2, HL2⟩ : ∃ l, Aside0 (L1 ++ uB x.f0 = l) := ⟨_, ⟨rfl⟩⟩
    obtain ⟨L3, HL3⟩ : ∃ l, Aside0 (L2 ++ uB x.f1 = l) := ⟨_, ⟨rfl⟩⟩
    obtain ⟨L4, HL4⟩ : ∃ l, Aside0 (L3 ++ sB x.f2 = l) := ⟨_, ⟨rfl⟩⟩
    obtain ⟨L5, HL5⟩ : ∃ l, Aside0 (L4 ++ [if x.f3 = true then 2 else 1] = l) := ⟨_, ⟨rfl⟩⟩
    obtain ⟨L6, HL6⟩ : ∃ l, Aside0 (L5 ++ uB x.f4 = l) := ⟨_, ⟨rfl⟩⟩
    obtain ⟨L7, HL7⟩ : ∃ l, Aside0 (L6 ++ [48] ++ uB (x.f5.size : Int) ++ bytesOf x.f5 = l) := ⟨_, ⟨rfl⟩⟩
    have b6 := uB_len 6
    have bk := uB_len x.f0
    have bi := uB_len x.f1
    have bn := sB_len x.f2 (by omega) (by omega)
    have bw := uB_len x.f4
    have bt_ := uB_len (x.f5.size : Int)
    have e1 : L1.length = 1 + (uB 6).length := by rw [← HL1.out]; simp; omega
    have e2 : L2.length = L1.length + (uB x.f0).length := by rw [← HL2.out, List.length_append]
    have e3 : L3.length = L2.length + (uB x.f1).length := by rw [← HL3.out, List.length_append]
    have e4 : L4.length = L3.length + (sB x.f2).length := by rw [← HL4.out, List.length_append]
    have e5 : L5.length = L4.length + 1 := by rw [← HL5.out, List.length_append]; rfl
    have e6 : L6.length = L5.length + (uB x.f4).length := by rw [← HL6.out, List.length_append]
    have HW1 := Aside0.mk (show ([] : List Int).length + 1 + (uB 6).length ≤ wrMax by simp only [List.length_nil]; unfold wrMax; omega)
    have HW2 := Aside0.mk (show L1.length + (uB x.f0).length ≤ wrMax by unfold wrMax; omega)
    have HW3 := Aside0.mk (show L2.length + (uB x.f1).length ≤ wrMax by unfold wrMax; omega)
    have HW4 := Aside0.mk (show L3.length + (sB x.f2).length ≤ wrMax by unfold wrMax; omega)
    have HW5 := Aside0.mk (show L4.length ≤ wrMax by unfold wrMax; omega)
    have HW6 := Aside0.mk (show L5.length + (uB x.f4).length ≤ wrMax by unfold wrMax; omega)
    have HW7 := Aside0.mk (show L6.length + 1 + (uB (x.f5.size : Int)).length + x.f5.size ≤ wrMax by unfold wrMax; omega)
    have HT := Aside0.mk (show x.f5.size ≤ 65535 by omega)
    have HR6 := Aside0.mk (show (0 : Int) ≤ 6 ∧ (6 : Int) ≤ 65535 by decide)
    have HE := Aside0.mk (show encB x = L7 by unfold encB; rw [HL1.out, HL2.out, HL3.out, HL4.out, HL5.out, HL6.out, HL7.out])
    rw [HE.out]
    have wk : IntKind.u64.wrap x.f0 = x.f0 := by show x.f0 % 18446744073709551616 = _; omega
    have wi : IntKind.u64.wrap x.f1 = x.f1 := by show x.f1 % 18446744073709551616 = _; omega
    have ww : IntKind.u64.wrap x.f4 = x.f4 := by show x.f4 % 18446744073709551616 = _; omega
    clear hk0 hk1 hi0 hi1 hn0 hn1 hw0 hw1 ht b6 bk bi bn bw bt_ e1 e2 e3 e4 e5 e6 z hr
    go_enter Tryd.func13, Tryd.ntmps13
    go_wp2_with (first | ((with_reducible refine gate_dst (N := 1) rfl ?_); refine box_event ?hg (N := 1) ?hd (cs := #[.int .i64 x.f0, .int .i64 x.f1, .int .i64 x.f2, .bool x.f3, .int .i64 x.f4, .string x.f5]) (t := 23) ?hr ?_; (case hd => rfl); (case hg => rfl); (case hr => first | (go_simp; done) | (go_simp; rfl)); intro gp hgp wa hbox hb; have HPa := Aside0.mk hbox; have HBa := Aside0.mk hb; have y0 := (blk_cell HPa.out 0).trans rfl; have y1 := (blk_cell HPa.out 1).trans rfl; have y2 := (blk_cell HPa.out 2).trans rfl; have y3 := (blk_cell HPa.out 3).trans rfl; have y4 := (blk_cell HPa.out 4).trans rfl; have y5 := (blk_cell HPa.out 5).trans rfl; clear hb hbox hgp) | (go_at_call 16; (with_reducible refine (segment_Check.calls k x.f0 x.f1 x.f2 x.f3 x.f4 x.f5 e0 _ (Glob.below HG.out HBa.out) HCK.out).mono ?_); rintro e wb ⟨rfl, hb⟩; have HBb := Aside0.mk (below_step HBa.out hb); have HPb := Aside0.mk (blk_below HPa.out hb); clear hb y0 y1 y2 y3 y4 y5) | ((with_reducible refine gate_dst (N := 12) rfl ?_); refine box_event ?hg (N := 12) ?hd (cs := #[.slice none 0 0]) (t := 82) ?hr ?_; (case hd => rfl); (case hg => rfl); (case hr => first | (go_simp; done) | (go_simp; rfl)); intro g hg w0 hbox hb; have HA0 : Aside0 (WrAt w.heap.size g [] w0) := ⟨⟨_, hbox, by rw [hg]; exact HBb.out.size, Kd.R_nil _ _ _ _ _⟩⟩; have HB0 := Aside0.mk (below_step HBb.out hb); have HP0 := Aside0.mk (blk_below HPb.out hb); have HZ0 := Aside0.mk HB0.out.size; have y0 := (blk_cell HP0.out 0).trans rfl; have y1 := (blk_cell HP0.out 1).trans rfl; have y2 := (blk_cell HP0.out 2).trans rfl; have y3 := (blk_cell HP0.out 3).trans rfl; have y4 := (blk_cell HP0.out 4).trans rfl; have y5 := (blk_cell HP0.out 5).trans rfl; clear hb hbox hg) | (go_at_call 39; (with_reducible refine (wr_list 1 10 w.heap.size g [] 6 _ _ _ ⟨Glob.base HG.out H0.out HB0.out⟩ H0.out HZ0.out HA0.out HW1.out HR6.out HD6 HN6).mono ?_); rintro e w1 ⟨rfl, ha, hb, hk⟩; rw [HL1.out] at ha; have HA1 := Aside0.mk ha; have HB1 := Aside0.mk (HB0.out.trans hb); have HP1 := Aside0.mk (hk.keep _ _ _ HP0.out (by decide) (by decide)); have HZ1 := Aside0.mk (Nat.le_trans HZ0.out hk.size); clear ha hb hk y0 y1 y2 y3 y4 y5; have y0 := (blk_cell HP1.out 0).trans rfl; have y1 := (blk_cell HP1.out 1).trans rfl; have y2 := (blk_cell HP1.out 2).trans rfl; have y3 := (blk_cell HP1.out 3).trans rfl; have y4 := (blk_cell HP1.out 4).trans rfl; have y5 := (blk_cell HP1.out 5).trans rfl) | (go_at_call 40; (with_reducible refine (wr_unsigned 1 10 w.heap.size g L1 x.f0 _ _ _ ⟨Glob.base HG.out H0.out HB1.out⟩ HZ1.out HA1.out HW2.out HDk HNk).mono ?_); rintro e w2 ⟨rfl, ha, hb, hk⟩; rw [HL2.out] at ha; have HA2 := Aside0.mk ha; have HB2 := Aside0.mk (HB1.out.trans hb); have HP2 := Aside0.mk (hk.keep _ _ _ HP1.out (by decide) (by decide)); have HZ2 := Aside0.mk (Nat.le_trans HZ1.out hk.size); clear ha hb hk y0 y1 y2 y3 y4 y5; have y0 := (blk_cell HP2.out 0).trans rfl; have y1 := (blk_cell HP2.out 1).trans rfl; have y2 := (blk_cell HP2.out 2).trans rfl; have y3 := (blk_cell HP2.out 3).trans rfl; have y4 := (blk_cell HP2.out 4).trans rfl; have y5 := (blk_cell HP2.out 5).trans rfl) | (go_at_call 40; (with_reducible refine (wr_unsigned 1 10 w.heap.size g L2 x.f1 _ _ _ ⟨Glob.base HG.out H0.out HB2.out⟩ HZ2.out HA2.out HW3.out HDi HNi).mono ?_); rintro e w3 ⟨rfl, ha, hb, hk⟩; rw [HL3.out] at ha; have HA3 := Aside0.mk ha; have HB3 := Aside0.mk (HB2.out.trans hb); have HP3 := Aside0.mk (hk.keep _ _ _ HP2.out (by decide) (by decide)); have HZ3 := Aside0.mk (Nat.le_trans HZ2.out hk.size); clear ha hb hk y0 y1 y2 y3 y4 y5; have y0 := (blk_cell HP3.out 0).trans rfl; have y1 := (blk_cell HP3.out 1).trans rfl; have y2 := (blk_cell HP3.out 2).trans rfl; have y3 := (blk_cell HP3.out 3).trans rfl; have y4 := (blk_cell HP3.out 4).trans rfl; have y5 := (blk_cell HP3.out 5).trans rfl) | (go_at_call 41; (with_reducible refine (wr_signed 1 10 w.heap.size g L3 x.f2 _ _ _ ⟨Glob.base HG.out H0.out HB3.out⟩ HZ3.out HA3.out HW4.out HDn HNn).mono ?_); rintro e w4 ⟨rfl, ha, hb, hk⟩; rw [HL4.out] at ha; have HA4 := Aside0.mk ha; have HB4 := Aside0.mk (HB3.out.trans hb); have HP4 := Aside0.mk (hk.keep _ _ _ HP3.out (by decide) (by decide)); have HZ4 := Aside0.mk (Nat.le_trans HZ3.out hk.size); clear ha hb hk y0 y1 y2 y3 y4 y5; have y0 := (blk_cell HP4.out 0).trans rfl; have y1 := (blk_cell HP4.out 1).trans rfl; have y2 := (blk_cell HP4.out 2).trans rfl; have y3 := (blk_cell HP4.out 3).trans rfl; have y4 := (blk_cell HP4.out 4).trans rfl; have y5 := (blk_cell HP4.out 5).trans rfl) | (go_at_call 42; (with_reducible refine (wr_bool w.heap.size g L4 x.f3 _ HZ4.out HA4.out HW5.out).mono ?_); rintro e w5 ⟨rfl, ha, hb, hk⟩; rw [HL5.out] at ha; have HA5 := Aside0.mk ha; have HB5 := Aside0.mk (HB4.out.trans hb); have HP5 := Aside0.mk (hk.keep _ _ _ HP4.out (by decide) (by decide)); have HZ5 := Aside0.mk (Nat.le_trans HZ4.out hk.size); clear ha hb hk y0 y1 y2 y3 y4 y5; have y0 := (blk_cell HP5.out 0).trans rfl; have y1 := (blk_cell HP5.out 1).trans rfl; have y2 := (blk_cell HP5.out 2).trans rfl; have y3 := (blk_cell HP5.out 3).trans rfl; have y4 := (blk_cell HP5.out 4).trans rfl; have y5 := (blk_cell HP5.out 5).trans rfl) | (go_at_call 40; (with_reducible refine (wr_unsigned 1 10 w.heap.size g L5 x.f4 _ _ _ ⟨Glob.base HG.out H0.out HB5.out⟩ HZ5.out HA5.out HW6.out HDw HNw).mono ?_); rintro e w6 ⟨rfl, ha, hb, hk⟩; rw [HL6.out] at ha; have HA6 := Aside0.mk ha; have HB6 := Aside0.mk (HB5.out.trans hb); have HP6 := Aside0.mk (hk.keep _ _ _ HP5.out (by decide) (by decide)); have HZ6 := Aside0.mk (Nat.le_trans HZ5.out hk.size); clear ha hb hk y0 y1 y2 y3 y4 y5; have y0 := (blk_cell HP6.out 0).trans rfl; have y1 := (blk_cell HP6.out 1).trans rfl; have y2 := (blk_cell HP6.out 2).trans rfl; have y3 := (blk_cell HP6.out 3).trans rfl; have y4 := (blk_cell HP6.out 4).trans rfl; have y5 := (blk_cell HP6.out 5).trans rfl) | (go_at_call 43; (with_reducible refine (wr_text 1 10 w.heap.size g L6 x.f5 _ _ _ ⟨Glob.base HG.out H0.out HB6.out⟩ H0.out HZ6.out HA6.out HW7.out HT.out HDt HNt).mono ?_); rintro e w7 ⟨rfl, ha, hb, hk⟩; rw [HL7.out] at ha; have HA7 := Aside0.mk ha; have HB7 := Aside0.mk (HB6.out.trans hb); have HP7 := Aside0.mk (hk.keep _ _ _ HP6.out (by decide) (by decide)); have HZ7 := Aside0.mk (Nat.le_trans HZ6.out hk.size); clear ha hb hk y0 y1 y2 y3 y4 y5; have y0 := (blk_cell HP7.out 0).trans rfl; have y1 := (blk_cell HP7.out 1).trans rfl; have y2 := (blk_cell HP7.out 2).trans rfl; have y3 := (blk_cell HP7.out 3).trans rfl; have y4 := (blk_cell HP7.out 4).trans rfl; have y5 := (blk_cell HP7.out 5).trans rfl) | (go_at_call 44; (with_reducible refine (wr_data w.heap.size g L7 _ HA7.out).mono ?_); rintro e w8 ⟨rfl, rfl⟩))
    go_ret2
    exact ⟨by rw [HZ.out]; rfl, HB7.out⟩
  · have zb : (e0 != 0) = true := bne_iff_ne.mpr z
    rw [if_neg z]
    clear z hr
    go_enter Tryd.func13, Tryd.ntmps13
    go_wp2_with (first | ((with_reducible refine gate_dst (N := 1) rfl ?_); refine box_event ?hg (N := 1) ?hd (cs := #[.int .i64 x.f0, .int .i64 x.f1, .int .i64 x.f2, .bool x.f3, .int .i64 x.f4, .string x.f5]) (t := 23) ?hr ?_; (case hd => rfl); (case hg => rfl); (case hr => first | (go_simp; done) | (go_simp; rfl)); intro gp hgp wa hbox hb; have HPa := Aside0.mk hbox; have HBa := Aside0.mk hb; have y0 := (blk_cell HPa.out 0).trans rfl; have y1 := (blk_cell HPa.out 1).trans rfl; have y2 := (blk_cell HPa.out 2).trans rfl; have y3 := (blk_cell HPa.out 3).trans rfl; have y4 := (blk_cell HPa.out 4).trans rfl; have y5 := (blk_cell HPa.out 5).trans rfl; clear hb hbox hgp) | (go_at_call 16; (with_reducible refine (segment_Check.calls k x.f0 x.f1 x.f2 x.f3 x.f4 x.f5 e0 _ (Glob.below HG.out HBa.out) HCK.out).mono ?_); rintro e wb ⟨rfl, hb⟩; have HBb := Aside0.mk (below_step HBa.out hb); have HPb := Aside0.mk (blk_below HPa.out hb); clear hb y0 y1 y2 y3 y4 y5))
    go_ret2
    exact ⟨rfl, HBb.out⟩
end Go.Proofs.YtbgabhknmpbgiaaDoor.S
end
section
namespace Go.Proofs.YtbgabhknmpbgiaaDoor.S
open Go.RowKit Go.Proofs.YtbgabhknmpbgiaaDoor.Pure Go.Proofs.YtbgabhknmpbgiaaDoorW.PrintWords Go.Proofs.YtbgabhknmpbgiaaDoorW.PrintLast Go.Proofs.YtbgabhknmpbgiaaDoorW.PrintMore
set_option linter.unusedVariables false
def segment_Encode.f (a0_0 : Int) (a0_1 : Int) (a0_2 : Int) (a0_3 : Bool) (a0_4 : Int) (a0_5 : ByteArray) : Option (ByteArray × Int) :=
  (segment_Check.f 40 a0_0 a0_1 a0_2 a0_3 a0_4 a0_5).bind fun e0 => if e0 = 0 then (if 0 ≤ a0_0 ∧ a0_0 ≤ 3 ∧ 0 ≤ a0_1 ∧ a0_1 ≤ 255 ∧ -1 ≤ a0_2 ∧ a0_2 ≤ 63 ∧ 0 ≤ a0_4 ∧ a0_4 ≤ 16 ∧ a0_5.size ≤ 400 then some (strOfNums (encB ⟨a0_0, a0_1, a0_2, a0_3, a0_4, a0_5⟩), e0) else none) else some (⟨#[]⟩, e0)
theorem segment_Encode.calls (a0_0 : Int) (a0_1 : Int) (a0_2 : Int) (a0_3 : Bool) (a0_4 : Int) (a0_5 : ByteArray) (r1 : ByteArray) (r2 : Int) (w : World) (hG : Glob w) (h : segment_Encode.f a0_0 a0_1 a0_2 a0_3 a0_4 a0_5 = some (r1, r2)) :
    Calls Tryd.prog 13 #[.agg #[.int .i64 a0_0, .int .i64 a0_1, .int .i64 a0_2, .bool a0_3, .int .i64 a0_4, .string a0_5]] w fun e w' => e = .returned (.tuple #[.string r1, .int .i64 r2]) ∧ Below w.heap.size w w' := by
  unfold segment_Encode.f at h
  obtain ⟨e0, hc, h⟩ := Option.bind_eq_some_iff.mp h
  by_cases z : e0 = 0
  · rw [if_pos z] at h
    by_cases q : 0 ≤ a0_0 ∧ a0_0 ≤ 3 ∧ 0 ≤ a0_1 ∧ a0_1 ≤ 255 ∧ -1 ≤ a0_2 ∧ a0_2 ≤ 63 ∧ 0 ≤ a0_4 ∧ a0_4 ≤ 16 ∧ a0_5.size ≤ 400
    · rw [if_pos q] at h
      obtain ⟨q0, q1, q2, q3, q4, q5, q6, q7, q8⟩ := q
      injection h with h
      injection h with h1 h2
      refine (encode_calls 40 ⟨a0_0, a0_1, a0_2, a0_3, a0_4, a0_5⟩ e0 w hG hc (fun _ => ⟨q0, q1, q2, q3, q4, q5, q6, q7, q8⟩)).mono ?_
      rintro e w' ⟨he, hb⟩
      rw [if_pos z, h1, h2] at he
      exact ⟨he, hb⟩
    · rw [if_neg q] at h
      cases h
  · rw [if_neg z] at h
    injection h with h
    injection h with h1 h2
    refine (encode_calls 40 ⟨a0_0, a0_1, a0_2, a0_3, a0_4, a0_5⟩ e0 w hG hc (fun z' => absurd z' z)).mono ?_
    rintro e w' ⟨he, hb⟩
    rw [if_neg z, h1, h2] at he
    exact ⟨he, hb⟩
end Go.Proofs.YtbgabhknmpbgiaaDoor.S
end
section
namespace Go.Proofs.YtbgabhknmpbgiaaDoor.S
open Go.RowKit Go.Proofs.YtbgabhknmpbgiaaDoorW.PrintWords Go.Proofs.YtbgabhknmpbgiaaDoorW.PrintLast Go.Proofs.YtbgabhknmpbgiaaDoorW.PrintMore
attribute [local go_sem] max2_int min2_int max_two min_two max_three min_three max_four min_four
set_option linter.unusedVariables false
set_option linter.unusedSimpArgs false
def IsS119 (w0 W : World) (g : Nat) (f0 : ByteArray) (f1 : Int) (f2 : Int) : Prop := W.heap[g]? = some (.cells #[.string f0, .int .i64 f1, .int .i64 f2] 119 (0, 0)) ∧ w0.heap.size ≤ g
theorem IsS119.grown {w0 W : World} {g : Nat} {f0 : ByteArray} {f1 : Int} {f2 : Int} {W1 : World} {row : Option Nat} (h : IsS119 w0 W g f0 f1 f2) (hw : W.grownBy W1 row) (hne : some g ≠ row) : IsS119 w0 W1 g f0 f1 f2 := by
  obtain ⟨hb, hg⟩ := h
  exact ⟨blk_grown hb hw hne, hg⟩
theorem IsS119.below {w0 W : World} {g : Nat} {f0 : ByteArray} {f1 : Int} {f2 : Int} {W1 : World} (h : IsS119 w0 W g f0 f1 f2) (hw : Below W.heap.size W W1) : IsS119 w0 W1 g f0 f1 f2 := h.grown (grown_of_below hw none) (by simp)
theorem IsS119.drewN {w0 W : World} {g : Nat} {f0 : ByteArray} {f1 : Int} {f2 : Int} (h : IsS119 w0 W g f0 f1 f2) (m : Nat) : IsS119 w0 (W.drewN m) g f0 f1 f2 := h
theorem IsS119.drew {w0 W : World} {g : Nat} {f0 : ByteArray} {f1 : Int} {f2 : Int} (h : IsS119 w0 W g f0 f1 f2) : IsS119 w0 W.drew g f0 f1 f2 := h
theorem IsS119.ge {w0 W : World} {g : Nat} {f0 : ByteArray} {f1 : Int} {f2 : Int} (h : IsS119 w0 W g f0 f1 f2) : w0.heap.size ≤ g := by
  obtain ⟨hb, hg⟩ := h
  exact hg
theorem cellS119_0 {W : World} {g : Nat} {f0 : ByteArray} {f1 : Int} {f2 : Int} (h : W.heap[g]? = some (.cells #[.string f0, .int .i64 f1, .int .i64 f2] 119 (0, 0))) : W.cell? ⟨g, 0, none⟩ = some (.string f0) := (blk_cell h 0).trans rfl
theorem cellS119_1 {W : World} {g : Nat} {f0 : ByteArray} {f1 : Int} {f2 : Int} (h : W.heap[g]? = some (.cells #[.string f0, .int .i64 f1, .int .i64 f2] 119 (0, 0))) : W.cell? ⟨g, 1, none⟩ = some (.int .i64 f1) := (blk_cell h 1).trans rfl
theorem IsS119.set_1 {w0 W : World} {g : Nat} {f0 : ByteArray} {f1 : Int} {f2 : Int} (h : IsS119 w0 W g f0 f1 f2) (x : Int) : IsS119 w0 (W.setCell ⟨g, 1, none⟩ (.int .i64 x)) g f0 x f2 := by
  obtain ⟨hb, hg⟩ := h
  exact ⟨by simpa using blk_set hb 1 (.int .i64 x), hg⟩
theorem cellS119_2 {W : World} {g : Nat} {f0 : ByteArray} {f1 : Int} {f2 : Int} (h : W.heap[g]? = some (.cells #[.string f0, .int .i64 f1, .int .i64 f2] 119 (0, 0))) : W.cell? ⟨g, 2, none⟩ = some (.int .i64 f2) := (blk_cell h 2).trans rfl
theorem IsS119.set_2 {w0 W : World} {g : Nat} {f0 : ByteArray} {f1 : Int} {f2 : Int} (h : IsS119 w0 W g f0 f1 f2) (x : Int) : IsS119 w0 (W.setCell ⟨g, 2, none⟩ (.int .i64 x)) g f0 f1 x := by
  obtain ⟨hb, hg⟩ := h
  exact ⟨by simpa using blk_set hb 2 (.int .i64 x), hg⟩
def codec_NewReader.f (a0 : ByteArray) : Option (ByteArray × Int × Int) := some (a0, 0, 0)
set_option maxHeartbeats 8000000 in
set_option maxRecDepth 100000 in
theorem codec_NewReader.calls (a0 : ByteArray) (r1 : ByteArray) (r2 : Int) (r3 : Int) (w0 w : World) (hG : Glob w0) (hB : Below w0.heap.size w0 w) (h : codec_NewReader.f a0 = some (r1, r2, r3)) :
    Calls Tryd.prog 45 #[.string a0] w fun e w' => ∃ g_ : Nat, e = .returned (.pointer (some ⟨g_, 0, none⟩)) ∧ IsS119 w0 w' g_ r1 r2 r3 ∧ Below w0.heap.size w0 w' ∧ Below w.heap.size w w' := by
  have hu119 := Tryd.underlying119
  have HG := Aside0.mk hG
  clear hG
  have HBW := Aside0.mk (Below.refl w.heap.size w)
  have HW0 := Aside0.mk hB.size
  have HB := Aside0.mk hB
  clear hB
  have H : (some (a0, 0, 0)) = some (r1, r2, r3) := h
  clear h
  simp only [Option.some.injEq, Prod.mk.injEq] at H
  obtain ⟨rfl, rfl, rfl⟩ := H
  go_enter Tryd.func45, Tryd.ntmps45
  go_wp2_with (first | ((with_reducible refine gate_dst (N := 5) rfl ?_); refine box_event ?hg (N := 5) ?hd (cs := #[.string a0, .int .i64 0, .int .i64 0]) (t := 119) ?hr ?_; (case hd => rfl); (case hg => rfl); (case hr => first | (go_simp; done) | (go_simp; rfl)); intro gb123 hg w2 hbox hb; have n0_ := Aside0.mk (below_step HBW.out hb); have n1_ := Aside0.mk (below_step (by repeat (first | (with_reducible first | exact HB.out | apply below_alloc | apply pw_below_drewN | apply below_drew1) | exact HB.out)) hb); have n2_ := Aside0.mk (hbox); have n3_ := Aside0.mk ((by rw [hg]; exact (below_size (by repeat (first | (with_reducible first | exact HBW.out | apply below_alloc | apply pw_below_drewN | apply below_drew1) | exact HBW.out))) : w.heap.size ≤ gb123)); have n4_ := Aside0.mk ((Nat.le_trans HW0.out (by rw [hg]; exact (below_size (by repeat (first | (with_reducible first | exact HBW.out | apply below_alloc | apply pw_below_drewN | apply below_drew1) | exact HBW.out))) : w.heap.size ≤ gb123) : w0.heap.size ≤ gb123)); clear HBW; clear HB; have HBW := n0_; have HB := n1_; have BK123 := n2_; have GW123 := n3_; have GE123 := n4_; clear n0_ n1_ n2_ n3_ n4_; clear hb hbox hg))
  go_ret
  exact ⟨_, rfl, (show IsS119 w0 _ gb123 a0 0 0 from ⟨by (with_reducible repeat (first | refine blk_drewN ?_ _ | refine blk_drew ?_ | refine blk_alloc ?_ _)); exact BK123.out, GE123.out⟩), by repeat (first | (with_reducible first | exact HB.out | apply below_alloc | apply pw_below_drewN | apply below_drew1 | refine below_set ?_ GE123.out) | exact HB.out), by repeat (first | (with_reducible first | exact HBW.out | apply below_alloc | apply pw_below_drewN | apply below_drew1 | refine below_set ?_ GW123.out) | exact HBW.out)⟩
end Go.Proofs.YtbgabhknmpbgiaaDoor.S
end
section
namespace Go.Proofs.YtbgabhknmpbgiaaDoor.S
open Go.RowKit Go.Proofs.YtbgabhknmpbgiaaDoorW.PrintWords Go.Proofs.YtbgabhknmpbgiaaDoorW.PrintLast Go.Proofs.YtbgabhknmpbgiaaDoorW.PrintMore
attribute [local go_sem] max2_int min2_int max_two min_two max_three min_three max_four min_four
set_option linter.unusedVariables false
set_option linter.unusedSimpArgs false
def codec_Reader_List.f (k : Nat) (s0_0 : ByteArray) (s0_1 : Int) (s0_2 : Int) : Option (Int × ByteArray × Int × Int) := if s0_2 = 0 then ((codec_list.f k s0_0 s0_1).bind fun bt131 => (if bt131.2.2 = true then (some (bt131.1, s0_0, bt131.2.1, s0_2)) else (some (0, s0_0, s0_1, 2)))) else (some (0, s0_0, s0_1, s0_2))
def codec_Reader_List.T71004 : Bool × List (List Nat × List Nat) := (true, [([], []), ([], []), ([1], [1]), ([2], [2]), ([3], [3]), ([], []), ([5], [5]), ([6], [6]), ([7], [7]), ([0, 4, 8], [0, 4, 8]), ([9], [9]), ([10], [10]), ([10], [10]), ([10], [10]), ([11, 9, 0, 1, 2, 3, 4, 5, 6, 7, 8, 9, 10, 11], [11]), ([12, 14, 0, 1, 2, 3, 4, 5, 6, 7, 8, 9, 10, 11, 12, 14], [12]), ([13, 15, 0, 1, 2, 3, 4, 5, 6, 7, 8, 9, 10, 11, 12, 13, 14, 15], [13])])
def codec_Reader_List.B71004 : List Nat := [0, 0, 2, 6, 14, 0, 32, 96, 224, 511, 1023, 2047, 2047, 2047, 4095, 24575, 65535]
theorem codec_Reader_List.tab71004 : rtab .any (opsOf Tryd.f71 4) = codec_Reader_List.T71004 := by kernel_rfl
theorem codec_Reader_List.bits71004 : waitsOk codec_Reader_List.T71004.2 codec_Reader_List.B71004 = true := by kernel_rfl
set_option maxHeartbeats 8000000 in
set_option maxRecDepth 100000 in
theorem codec_Reader_List.calls (k : Nat) (g : Nat) (s0_0 : ByteArray) (s0_1 : Int) (s0_2 : Int) (r1 : Int) (r2 : ByteArray) (r3 : Int) (r4 : Int) (w0 w : World) (hG : Glob w0) (hI : IsS119 w0 w g s0_0 s0_1 s0_2) (hB : Below w0.heap.size w0 w) (h : codec_Reader_List.f k s0_0 s0_1 s0_2 = some (r1, r2, r3, r4)) :
    Calls Tryd.prog 46 #[.pointer (some ⟨g, 0, none⟩)] w fun e w' => e = .returned (.int .i64 r1) ∧ IsS119 w0 w' g r2 r3 r4 ∧ Below w0.heap.size w0 w' ∧ KeepBut w w' g none := by
  have hmf_ : ∀ (fn : Fn) (first cap : Array Value) (w : World), (Instr.makeFunc fn first cap).run Tryd.prog w = .ok (.func fn first cap) w := fun _ _ _ _ => rfl
  have HG := Aside0.mk hG
  clear hG
  have HI0 := Aside0.mk hI
  have HK := Aside0.mk (KeepBut.refl w g none)
  have HL := Aside0.mk hB.size
  clear hI
  have HW0 := Aside0.mk hB.size
  have HB := Aside0.mk hB
  clear hB
  have H : (if s0_2 = 0 then ((codec_list.f k s0_0 s0_1).bind fun bt131 => (if bt131.2.2 = true then (some (bt131.1, s0_0, bt131.2.1, s0_2)) else (some (0, s0_0, s0_1, 2)))) else (some (0, s0_0, s0_1, s0_2))) = some (r1, r2, r3, r4) := h
  clear h
  by_cases c2 : s0_2 = 0
  · rw [if_pos c2] at H
    have c2b0 : (s0_2 == 0) = true := beq_iff_eq.mpr c2
    have c2b1 : (s0_2 != 0) = false := bne_eq_false_iff_eq.mpr c2
    clear c2
    replace H := Option.bind_eq_some_iff.mp H
    obtain ⟨⟨t131, t132, t133⟩, A30, H⟩ := H
    replace H : (if t133 = true then (some (t131, s0_0, t132, s0_2)) else (some (0, s0_0, s0_1, 2))) = some (r1, r2, r3, r4) := H
    have A3 := Aside0.mk A30
    clear A30
    by_cases c4 : t133 = true
    · subst c4
      have H1 : (some (t131, s0_0, t132, s0_2)) = some (r1, r2, r3, r4) := by rw [if_pos rfl] at H; exact H
      clear H
      have H := H1
      clear H1
      simp only [Option.some.injEq, Prod.mk.injEq] at H
      obtain ⟨rfl, rfl, rfl, rfl⟩ := H
      obtain ⟨HGz5, hgz5⟩ := HI0.out
      have hcz5_0 := cellS119_0 HGz5
      have hcz5_1 := cellS119_1 HGz5
      have hcz5_2 := cellS119_2 HGz5
      have hfz5_0 := blk_frozen HGz5 0
      have hfz5_1 := blk_frozen HGz5 1
      have hfz5_2 := blk_frozen HGz5 2
      clear HGz5 hgz5
      go_enter Tryd.func46, Tryd.ntmps46
      try go_wp2_with (first | (go_at_call 71; go_in) | ((try simp only [Exit.inBlock, Exit.then]); refine bodyPost_end (results_none rfl _ _ _) rfl ?_; simp only []; go_at_K))
      have n0_ := Aside0.mk (IsS119.drew HI0.out)
      have n1_ := Aside0.mk (keep_drew HK.out)
      have n2_ := Aside0.mk (below_drew1 HB.out)
      clear HI0
      clear HK
      clear HB
      have HI0 := n0_
      have HK := n1_
      have HB := n2_
      clear n0_ n1_ n2_
      refine start_ (n := 17) (S := fun w' => w'.cell? ⟨g, 0, none⟩ = some (.string s0_0) ∧ w'.cell? ⟨g, 1, none⟩ = some (.int .i64 s0_1) ∧ w'.cell? ⟨g, 2, none⟩ = some (.int .i64 s0_2)) (ds := []) #[false, false, false, false, false, false, false, false, false, false, false, false, false, false, false, false, false] (by kernel_rfl) rfl rfl ⟨(blk_cell (Aside0.mk HI0.out.1).out 0).trans rfl, (blk_cell (Aside0.mk HI0.out.1).out 1).trans rfl, (blk_cell (Aside0.mk HI0.out.1).out 2).trans rfl⟩ (fun hHeld => ?_); refine with_tabW codec_Reader_List.tab71004 codec_Reader_List.bits71004 (fun HT_ HW_ => ?_)
      generalize w.drew = w6 at HI0 HK HB hHeld ⊢
      refine pure_ (i := 0) (N := some 16) (v := ?_) (a' := ?_) #[true, false, false, false, false, false, false, false, false, false, false, false, false, false, false, false, false] rfl rfl (any_of HT_.out (by kernel_rfl)) (fun _ _ _ h => h) (Or.inl ⟨by rfl, ?_⟩) ?_ ?_
      rotate_left
      · intro w'
        go_simp
        with_reducible rfl
      rotate_left
      · simp only [Act.put, List.setIfInBounds_toArray, List.set_cons_zero, List.set_cons_succ, i64_w, i32_w]
        rfl
      refine pure_ (i := 1) (N := some 17) (v := ?_) (a' := ?_) #[true, true, false, false, false, false, false, false, false, false, false, false, false, false, false, false, false] rfl rfl (any_of HT_.out (by kernel_rfl)) (fun _ _ _ h => h) (Or.inl ⟨by rfl, ?_⟩) ?_ ?_
      rotate_left
      · intro w'
        go_simp
        with_reducible rfl
      rotate_left
      · simp only [Act.put, List.setIfInBounds_toArray, List.set_cons_zero, List.set_cons_succ, i64_w, i32_w]
        rfl
      refine pure_ (i := 2) (N := some 18) (v := ?_) (a' := ?_) #[true, true, true, false, false, false, false, false, false, false, false, false, false, false, false, false, false] rfl rfl (any_of HT_.out (by kernel_rfl)) (fun _ _ _ h => h) (Or.inl ⟨by rfl, ?_⟩) ?_ ?_
      rotate_left
      · intro w'
        go_simp
        with_reducible rfl
      rotate_left
      · simp only [Act.put, List.setIfInBounds_toArray, List.set_cons_zero, List.set_cons_succ, i64_w, i32_w]
        rfl
      refine pure_ (i := 3) (N := some 19) (v := ?_) (a' := ?_) #[true, true, true, true, false, false, false, false, false, false, false, false, false, false, false, false, false] rfl rfl (any_of HT_.out (by kernel_rfl)) (fun _ _ _ h => h) (Or.inl ⟨by rfl, ?_⟩) ?_ ?_
      rotate_left
      · intro w'
        go_simp
        with_reducible rfl
      rotate_left
      · simp only [Act.put, List.setIfInBounds_toArray, List.set_cons_zero, List.set_cons_succ, i64_w, i32_w]
        rfl
      refine pure_ (i := 5) (N := some 21) (v := ?_) (a' := ?_) #[true, true, true, true, false, true, false, false, false, false, false, false, false, false, false, false, false] rfl rfl (any_of HT_.out (by kernel_rfl)) (fun _ _ _ h => h) (Or.inl ⟨by rfl, ?_⟩) ?_ ?_
      rotate_left
      · intro w'
        go_simp
        with_reducible rfl
      rotate_left
      · simp only [Act.put, List.setIfInBounds_toArray, List.set_cons_zero, List.set_cons_succ, i64_w, i32_w]
        rfl
      refine pure_ (i := 6) (N := some 22) (v := ?_) (a' := ?_) #[true, true, true, true, false, true, true, false, false, false, false, false, false, false, false, false, false] rfl rfl (any_of HT_.out (by kernel_rfl)) (fun _ _ _ h => h) (Or.inl ⟨by rfl, ?_⟩) ?_ ?_
      rotate_left
      · intro w'
        go_simp
        with_reducible rfl
      rotate_left
      · simp only [Act.put, List.setIfInBounds_toArray, List.set_cons_zero, List.set_cons_succ, i64_w, i32_w]
        rfl
      refine pure_ (i := 7) (N := some 23) (v := ?_) (a' := ?_) #[true, true, true, true, false, true, true, true, false, false, false, false, false, false, false, false, false] rfl rfl (any_of HT_.out (by kernel_rfl)) (fun _ _ _ h => h) (Or.inl ⟨by rfl, ?_⟩) ?_ ?_
      rotate_left
      · intro w'
        go_simp
        with_reducible rfl
      rotate_left
      · simp only [Act.put, List.setIfInBounds_toArray, List.set_cons_zero, List.set_cons_succ, i64_w, i32_w]
        rfl
      refine take_ (i := 4) (N := some 20) (v := ?_) (a' := ?_) #[true, true, true, true, true, true, true, true, false, false, false, false, false, false, false, false, false] rfl rfl (take_ofW HT_.out HW_.out (by kernel_rfl)) (fun _ _ _ h => h) (Or.inl ⟨by rfl, ?_⟩) hHeld ?_ ?_
      rotate_left
      · rintro w' ⟨s0, s1, s2⟩
        go_simp
        with_reducible rfl
      rotate_left
      · simp only [Act.put, List.setIfInBounds_toArray, List.set_cons_zero, List.set_cons_succ, i64_w, i32_w]
        rfl
      refine take_ (i := 8) (N := some 24) (v := ?_) (a' := ?_) #[true, true, true, true, true, true, true, true, true, false, false, false, false, false, false, false, false] rfl rfl (take_ofW HT_.out HW_.out (by kernel_rfl)) (fun _ _ _ h => h) (Or.inl ⟨by rfl, ?_⟩) hHeld ?_ ?_
      rotate_left
      · rintro w' ⟨s0, s1, s2⟩
        go_simp
        with_reducible rfl
      rotate_left
      · simp only [Act.put, List.setIfInBounds_toArray, List.set_cons_zero, List.set_cons_succ, i64_w, i32_w]
        rfl
      refine one_ (i := 9) (N := some 25) #[true, true, true, true, true, true, true, true, true, true, false, false, false, false, false, false, false] rfl rfl (one_of HT_.out (by kernel_rfl)) (by decide) (fun K hK => ?_)
      refine goesT_ Tryd.func72 (by kernel_rfl) rfl #[.string s0_0, .int .i64 s0_1] (by rfl) rfl rfl rfl (by (try simp only [List.map_toArray, List.map_cons, List.map_nil]); first | done | rfl | (simp only [List.length_drop, List.length_take]; rfl)) ?_
      with_reducible refine (codec_list.calls k s0_0 s0_1 t131 t132 true _ ?side99  A3.out).mono ?_
      (case side99 => first | exact HG.out | exact Glob.below HG.out (by repeat (first | (with_reducible first | exact HB.out | apply below_alloc | apply pw_below_drewN | apply below_drew1 | refine below_set ?_ (IsS119.ge HI0.out)) | exact HB.out)))
      rintro e w7 ⟨rfl, hb⟩
      refine ⟨_, rfl, ?_⟩
      have n0_ := Aside0.mk (IsS119.below (by repeat (first | (with_reducible first | exact HI0.out | apply IsS119.alloc | apply IsS119.drewN | apply IsS119.drew | apply IsS119.set_0 | apply IsS119.set_1 | apply IsS119.set_2) | exact HI0.out)) hb)
      have n1_ := Aside0.mk (KeepBut.trans (by repeat (first | (with_reducible first | exact HK.out | apply KeepBut.set_ | apply keep_drewN | apply keep_drew | apply keep_alloc) | exact HK.out)) (KeepBut.of_below hb g none) (.inl rfl))
      have n2_ := Aside0.mk (below_step (by repeat (first | (with_reducible first | exact HB.out | apply below_alloc | apply pw_below_drewN | apply below_drew1 | refine below_set ?_ (IsS119.ge HI0.out)) | exact HB.out)) hb)
      clear HI0
      clear HK
      clear HB
      have HI0 := n0_
      have HK := n1_
      have HB := n2_
      clear n0_ n1_ n2_
      (try clear hb)
      (try clear hb2)
      (try clear hk)
      (try clear hi)
      refine hK.out _ _ ⟨(blk_cell (Aside0.mk HI0.out.1).out 0).trans rfl, (blk_cell (Aside0.mk HI0.out.1).out 1).trans rfl, (blk_cell (Aside0.mk HI0.out.1).out 2).trans rfl⟩ (fun hHeld => ?_)
      clear hK K
      refine norm_ (a' := ?_) ?_ ?_
      rotate_left
      · show Act.put _ (some 25) _ = _
        simp only [Act.put, List.setIfInBounds_toArray, List.set_cons_zero, List.set_cons_succ, i64_w, i32_w]
        rfl
      refine pure_ (i := 10) (N := some 15) (v := ?_) (a' := ?_) #[true, true, true, true, true, true, true, true, true, true, true, false, false, false, false, false, false] rfl rfl (any_of HT_.out (by kernel_rfl)) (fun _ _ _ h => h) (Or.inl ⟨by rfl, ?_⟩) ?_ ?_
      rotate_left
      · intro w'
        go_simp
        with_reducible rfl
      rotate_left
      · simp only [Act.put, List.setIfInBounds_toArray, List.set_cons_zero, List.set_cons_succ, i64_w, i32_w]
        rfl
      refine pure_ (i := 11) (N := some 26) (v := ?_) (a' := ?_) #[true, true, true, true, true, true, true, true, true, true, true, true, false, false, false, false, false] rfl rfl (any_of HT_.out (by kernel_rfl)) (fun _ _ _ h => h) (Or.inl ⟨by rfl, ?_⟩) ?_ ?_
      rotate_left
      · intro w'
        go_simp
        with_reducible rfl
      rotate_left
      · simp only [Act.put, List.setIfInBounds_toArray, List.set_cons_zero, List.set_cons_succ, i64_w, i32_w]
        rfl
      refine pure_ (i := 12) (N := some 27) (v := ?_) (a' := ?_) #[true, true, true, true, true, true, true, true, true, true, true, true, true, false, false, false, false] rfl rfl (any_of HT_.out (by kernel_rfl)) (fun _ _ _ h => h) (Or.inl ⟨by rfl, ?_⟩) ?_ ?_
      rotate_left
      · intro w'
        go_simp
        with_reducible rfl
      rotate_left
      · simp only [Act.put, List.setIfInBounds_toArray, List.set_cons_zero, List.set_cons_succ, i64_w, i32_w]
        rfl
      refine pure_ (i := 13) (N := some 28) (v := ?_) (a' := ?_) #[true, true, true, true, true, true, true, true, true, true, true, true, true, true, false, false, false] rfl rfl (any_of HT_.out (by kernel_rfl)) (fun _ _ _ h => h) (Or.inl ⟨by rfl, ?_⟩) ?_ ?_
      rotate_left
      · intro w'
        go_simp
        with_reducible rfl
      rotate_left
      · simp only [Act.put, List.setIfInBounds_toArray, List.set_cons_zero, List.set_cons_succ, i64_w, i32_w]
        rfl
      refine pure_ (i := 14) (N := some 6) (v := ?_) (a' := ?_) #[true, true, true, true, true, true, true, true, true, true, true, true, true, true, true, false, false] rfl rfl (any_of HT_.out (by kernel_rfl)) (fun _ _ _ h => h) (Or.inl ⟨by rfl, ?_⟩) ?_ ?_
      rotate_left
      · intro w'
        go_simp
        with_reducible rfl
      rotate_left
      · simp only [Act.put, List.setIfInBounds_toArray, List.set_cons_zero, List.set_cons_succ, i64_w, i32_w]
        rfl
      refine pure_ (i := 15) (N := some 7) (v := ?_) (a' := ?_) #[true, true, true, true, true, true, true, true, true, true, true, true, true, true, true, true, false] rfl rfl (any_of HT_.out (by kernel_rfl)) (fun _ _ _ h => h) (Or.inl ⟨by rfl, ?_⟩) ?_ ?_
      rotate_left
      · intro w'
        go_simp
        with_reducible rfl
      rotate_left
      · simp only [Act.put, List.setIfInBounds_toArray, List.set_cons_zero, List.set_cons_succ, i64_w, i32_w]
        rfl
      refine pure_ (i := 16) (N := some 8) (v := ?_) (a' := ?_) #[true, true, true, true, true, true, true, true, true, true, true, true, true, true, true, true, true] rfl rfl (any_of HT_.out (by kernel_rfl)) (fun _ _ _ h => h) (Or.inl ⟨by rfl, ?_⟩) ?_ ?_
      rotate_left
      · intro w'
        go_simp
        with_reducible rfl
      rotate_left
      · simp only [Act.put, List.setIfInBounds_toArray, List.set_cons_zero, List.set_cons_succ, i64_w, i32_w]
        rfl
      refine done_ (done_of HT_.out (by kernel_rfl)) ?_
      obtain ⟨HGz8, hgz8⟩ := HI0.out
      have hcz8_0 := cellS119_0 HGz8
      have hcz8_1 := cellS119_1 HGz8
      have hcz8_2 := cellS119_2 HGz8
      have hfz8_0 := blk_frozen HGz8 0
      have hfz8_1 := blk_frozen HGz8 1
      have hfz8_2 := blk_frozen HGz8 2
      clear HGz8 hgz8
      try go_wp2_with (first | (go_at_call 71; go_in) | ((try simp only [Exit.inBlock, Exit.then]); refine bodyPost_end (results_none rfl _ _ _) rfl ?_; simp only []; go_at_K))
      go_ret
      exact ⟨by first | rfl | (simp [errW_none, errW_some] <;> rfl) | (simp [*, errW_none, errW_some] <;> rfl), by repeat (first | (with_reducible first | exact HI0.out | apply IsS119.alloc | apply IsS119.drewN | apply IsS119.drew | apply IsS119.set_0 | apply IsS119.set_1 | apply IsS119.set_2) | exact HI0.out), by repeat (first | (with_reducible first | exact HB.out | apply below_alloc | apply pw_below_drewN | apply below_drew1 | refine below_set ?_ (IsS119.ge HI0.out)) | exact HB.out), by repeat (first | (with_reducible first | exact HK.out | apply KeepBut.set_ | apply keep_drewN | apply keep_drew | apply keep_alloc) | exact HK.out)⟩
    · replace c4 := Bool.eq_false_iff.mpr c4
      subst c4
      have H1 : (some (0, s0_0, s0_1, 2)) = some (r1, r2, r3, r4) := by rw [if_neg (show ¬ (false = true) by decide)] at H; exact H
      clear H
      have H := H1
      clear H1
      simp only [Option.some.injEq, Prod.mk.injEq] at H
      obtain ⟨rfl, rfl, rfl, rfl⟩ := H
      obtain ⟨HGz9, hgz9⟩ := HI0.out
      have hcz9_0 := cellS119_0 HGz9
      have hcz9_1 := cellS119_1 HGz9
      have hcz9_2 := cellS119_2 HGz9
      have hfz9_0 := blk_frozen HGz9 0
      have hfz9_1 := blk_frozen HGz9 1
      have hfz9_2 := blk_frozen HGz9 2
      clear HGz9 hgz9
      go_enter Tryd.func46, Tryd.ntmps46
      try go_wp2_with (first | (go_at_call 71; go_in) | ((try simp only [Exit.inBlock, Exit.then]); refine bodyPost_end (results_none rfl _ _ _) rfl ?_; simp only []; go_at_K))
      have n0_ := Aside0.mk (IsS119.drew HI0.out)
      have n1_ := Aside0.mk (keep_drew HK.out)
      have n2_ := Aside0.mk (below_drew1 HB.out)
      clear HI0
      clear HK
      clear HB
      have HI0 := n0_
      have HK := n1_
      have HB := n2_
      clear n0_ n1_ n2_
      refine start_ (n := 17) (S := fun w' => w'.cell? ⟨g, 0, none⟩ = some (.string s0_0) ∧ w'.cell? ⟨g, 1, none⟩ = some (.int .i64 s0_1) ∧ w'.cell? ⟨g, 2, none⟩ = some (.int .i64 s0_2)) (ds := []) #[false, false, false, false, false, false, false, false, false, false, false, false, false, false, false, false, false] (by kernel_rfl) rfl rfl ⟨(blk_cell (Aside0.mk HI0.out.1).out 0).trans rfl, (blk_cell (Aside0.mk HI0.out.1).out 1).trans rfl, (blk_cell (Aside0.mk HI0.out.1).out 2).trans rfl⟩ (fun hHeld => ?_); refine with_tabW codec_Reader_List.tab71004 codec_Reader_List.bits71004 (fun HT_ HW_ => ?_)
      generalize w.drew = w10 at HI0 HK HB hHeld ⊢
      refine pure_ (i := 0) (N := some 16) (v := ?_) (a' := ?_) #[true, false, false, false, false, false, false, false, false, false, false, false, false, false, false, false, false] rfl rfl (any_of HT_.out (by kernel_rfl)) (fun _ _ _ h => h) (Or.inl ⟨by rfl, ?_⟩) ?_ ?_
      rotate_left
      · intro w'
        go_simp
        with_reducible rfl
      rotate_left
      · simp only [Act.put, List.setIfInBounds_toArray, List.set_cons_zero, List.set_cons_succ, i64_w, i32_w]
        rfl
      refine pure_ (i := 1) (N := some 17) (v := ?_) (a' := ?_) #[true, true, false, false, false, false, false, false, false, false, false, false, false, false, false, false, false] rfl rfl (any_of HT_.out (by kernel_rfl)) (fun _ _ _ h => h) (Or.inl ⟨by rfl, ?_⟩) ?_ ?_
      rotate_left
      · intro w'
        go_simp
        with_reducible rfl
      rotate_left
      · simp only [Act.put, List.setIfInBounds_toArray, List.set_cons_zero, List.set_cons_succ, i64_w, i32_w]
        rfl
      refine pure_ (i := 2) (N := some 18) (v := ?_) (a' := ?_) #[true, true, true, false, false, false, false, false, false, false, false, false, false, false, false, false, false] rfl rfl (any_of HT_.out (by kernel_rfl)) (fun _ _ _ h => h) (Or.inl ⟨by rfl, ?_⟩) ?_ ?_
      rotate_left
      · intro w'
        go_simp
        with_reducible rfl
      rotate_left
      · simp only [Act.put, List.setIfInBounds_toArray, List.set_cons_zero, List.set_cons_succ, i64_w, i32_w]
        rfl
      refine pure_ (i := 3) (N := some 19) (v := ?_) (a' := ?_) #[true, true, true, true, false, false, false, false, false, false, false, false, false, false, false, false, false] rfl rfl (any_of HT_.out (by kernel_rfl)) (fun _ _ _ h => h) (Or.inl ⟨by rfl, ?_⟩) ?_ ?_
      rotate_left
      · intro w'
        go_simp
        with_reducible rfl
      rotate_left
      · simp only [Act.put, List.setIfInBounds_toArray, List.set_cons_zero, List.set_cons_succ, i64_w, i32_w]
        rfl
      refine pure_ (i := 5) (N := some 21) (v := ?_) (a' := ?_) #[true, true, true, true, false, true, false, false, false, false, false, false, false, false, false, false, false] rfl rfl (any_of HT_.out (by kernel_rfl)) (fun _ _ _ h => h) (Or.inl ⟨by rfl, ?_⟩) ?_ ?_
      rotate_left
      · intro w'
        go_simp
        with_reducible rfl
      rotate_left
      · simp only [Act.put, List.setIfInBounds_toArray, List.set_cons_zero, List.set_cons_succ, i64_w, i32_w]
        rfl
      refine pure_ (i := 6) (N := some 22) (v := ?_) (a' := ?_) #[true, true, true, true, false, true, true, false, false, false, false, false, false, false, false, false, false] rfl rfl (any_of HT_.out (by kernel_rfl)) (fun _ _ _ h => h) (Or.inl ⟨by rfl, ?_⟩) ?_ ?_
      rotate_left
      · intro w'
        go_simp
        with_reducible rfl
      rotate_left
      · simp only [Act.put, List.setIfInBounds_toArray, List.set_cons_zero, List.set_cons_succ, i64_w, i32_w]
        rfl
      refine pure_ (i := 7) (N := some 23) (v := ?_) (a' := ?_) #[true, true, true, true, false, true, true, true, false, false, false, false, false, false, false, false, false] rfl rfl (any_of HT_.out (by kernel_rfl)) (fun _ _ _ h => h) (Or.inl ⟨by rfl, ?_⟩) ?_ ?_
      rotate_left
      · intro w'
        go_simp
        with_reducible rfl
      rotate_left
      · simp only [Act.put, List.setIfInBounds_toArray, List.set_cons_zero, List.set_cons_succ, i64_w, i32_w]
        rfl
      refine take_ (i := 4) (N := some 20) (v := ?_) (a' := ?_) #[true, true, true, true, true, true, true, true, false, false, false, false, false, false, false, false, false] rfl rfl (take_ofW HT_.out HW_.out (by kernel_rfl)) (fun _ _ _ h => h) (Or.inl ⟨by rfl, ?_⟩) hHeld ?_ ?_
      rotate_left
      · rintro w' ⟨s0, s1, s2⟩
        go_simp
        with_reducible rfl
      rotate_left
      · simp only [Act.put, List.setIfInBounds_toArray, List.set_cons_zero, List.set_cons_succ, i64_w, i32_w]
        rfl
      refine take_ (i := 8) (N := some 24) (v := ?_) (a' := ?_) #[true, true, true, true, true, true, true, true, true, false, false, false, false, false, false, false, false] rfl rfl (take_ofW HT_.out HW_.out (by kernel_rfl)) (fun _ _ _ h => h) (Or.inl ⟨by rfl, ?_⟩) hHeld ?_ ?_
      rotate_left
      · rintro w' ⟨s0, s1, s2⟩
        go_simp
        with_reducible rfl
      rotate_left
      · simp only [Act.put, List.setIfInBounds_toArray, List.set_cons_zero, List.set_cons_succ, i64_w, i32_w]
        rfl
      refine one_ (i := 9) (N := some 25) #[true, true, true, true, true, true, true, true, true, true, false, false, false, false, false, false, false] rfl rfl (one_of HT_.out (by kernel_rfl)) (by decide) (fun K hK => ?_)
      refine goesT_ Tryd.func72 (by kernel_rfl) rfl #[.string s0_0, .int .i64 s0_1] (by rfl) rfl rfl rfl (by (try simp only [List.map_toArray, List.map_cons, List.map_nil]); first | done | rfl | (simp only [List.length_drop, List.length_take]; rfl)) ?_
      with_reducible refine (codec_list.calls k s0_0 s0_1 t131 t132 false _ ?side99  A3.out).mono ?_
      (case side99 => first | exact HG.out | exact Glob.below HG.out (by repeat (first | (with_reducible first | exact HB.out | apply below_alloc | apply pw_below_drewN | apply below_drew1 | refine below_set ?_ (IsS119.ge HI0.out)) | exact HB.out)))
      rintro e w11 ⟨rfl, hb⟩
      refine ⟨_, rfl, ?_⟩
      have n0_ := Aside0.mk (IsS119.below (by repeat (first | (with_reducible first | exact HI0.out | apply IsS119.alloc | apply IsS119.drewN | apply IsS119.drew | apply IsS119.set_0 | apply IsS119.set_1 | apply IsS119.set_2) | exact HI0.out)) hb)
      have n1_ := Aside0.mk (KeepBut.trans (by repeat (first | (with_reducible first | exact HK.out | apply KeepBut.set_ | apply keep_drewN | apply keep_drew | apply keep_alloc) | exact HK.out)) (KeepBut.of_below hb g none) (.inl rfl))
      have n2_ := Aside0.mk (below_step (by repeat (first | (with_reducible first | exact HB.out | apply below_alloc | apply pw_below_drewN | apply below_drew1 | refine below_set ?_ (IsS119.ge HI0.out)) | exact HB.out)) hb)
      clear HI0
      clear HK
      clear HB
      have HI0 := n0_
      have HK := n1_
      have HB := n2_
      clear n0_ n1_ n2_
      (try clear hb)
      (try clear hb2)
      (try clear hk)
      (try clear hi)
      refine hK.out _ _ ⟨(blk_cell (Aside0.mk HI0.out.1).out 0).trans rfl, (blk_cell (Aside0.mk HI0.out.1).out 1).trans rfl, (blk_cell (Aside0.mk HI0.out.1).out 2).trans rfl⟩ (fun hHeld => ?_)
      clear hK K
      refine norm_ (a' := ?_) ?_ ?_
      rotate_left
      · show Act.put _ (some 25) _ = _
        simp only [Act.put, List.setIfInBounds_toArray, List.set_cons_zero, List.set_cons_succ, i64_w, i32_w]
        rfl
      refine pure_ (i := 10) (N := some 15) (v := ?_) (a' := ?_) #[true, true, true, true, true, true, true, true, true, true, true, false, false, false, false, false, false] rfl rfl (any_of HT_.out (by kernel_rfl)) (fun _ _ _ h => h) (Or.inl ⟨by rfl, ?_⟩) ?_ ?_
      rotate_left
      · intro w'
        go_simp
        with_reducible rfl
      rotate_left
      · simp only [Act.put, List.setIfInBounds_toArray, List.set_cons_zero, List.set_cons_succ, i64_w, i32_w]
        rfl
      refine pure_ (i := 11) (N := some 26) (v := ?_) (a' := ?_) #[true, true, true, true, true, true, true, true, true, true, true, true, false, false, false, false, false] rfl rfl (any_of HT_.out (by kernel_rfl)) (fun _ _ _ h => h) (Or.inl ⟨by rfl, ?_⟩) ?_ ?_
      rotate_left
      · intro w'
        go_simp
        with_reducible rfl
      rotate_left
      · simp only [Act.put, List.setIfInBounds_toArray, List.set_cons_zero, List.set_cons_succ, i64_w, i32_w]
        rfl
      refine pure_ (i := 12) (N := some 27) (v := ?_) (a' := ?_) #[true, true, true, true, true, true, true, true, true, true, true, true, true, false, false, false, false] rfl rfl (any_of HT_.out (by kernel_rfl)) (fun _ _ _ h => h) (Or.inl ⟨by rfl, ?_⟩) ?_ ?_
      rotate_left
      · intro w'
        go_simp
        with_reducible rfl
      rotate_left
      · simp only [Act.put, List.setIfInBounds_toArray, List.set_cons_zero, List.set_cons_succ, i64_w, i32_w]
        rfl
      refine pure_ (i := 13) (N := some 28) (v := ?_) (a' := ?_) #[true, true, true, true, true, true, true, true, true, true, true, true, true, true, false, false, false] rfl rfl (any_of HT_.out (by kernel_rfl)) (fun _ _ _ h => h) (Or.inl ⟨by rfl, ?_⟩) ?_ ?_
      rotate_left
      · intro w'
        go_simp
        with_reducible rfl
      rotate_left
      · simp only [Act.put, List.setIfInBounds_toArray, List.set_cons_zero, List.set_cons_succ, i64_w, i32_w]
        rfl
      refine pure_ (i := 14) (N := some 6) (v := ?_) (a' := ?_) #[true, true, true, true, true, true, true, true, true, true, true, true, true, true, true, false, false] rfl rfl (any_of HT_.out (by kernel_rfl)) (fun _ _ _ h => h) (Or.inl ⟨by rfl, ?_⟩) ?_ ?_
      rotate_left
      · intro w'
        go_simp
        with_reducible rfl
      rotate_left
      · simp only [Act.put, List.setIfInBounds_toArray, List.set_cons_zero, List.set_cons_succ, i64_w, i32_w]
        rfl
      refine pure_ (i := 15) (N := some 7) (v := ?_) (a' := ?_) #[true, true, true, true, true, true, true, true, true, true, true, true, true, true, true, true, false] rfl rfl (any_of HT_.out (by kernel_rfl)) (fun _ _ _ h => h) (Or.inl ⟨by rfl, ?_⟩) ?_ ?_
      rotate_left
      · intro w'
        go_simp
        with_reducible rfl
      rotate_left
      · simp only [Act.put, List.setIfInBounds_toArray, List.set_cons_zero, List.set_cons_succ, i64_w, i32_w]
        rfl
      refine pure_ (i := 16) (N := some 8) (v := ?_) (a' := ?_) #[true, true, true, true, true, true, true, true, true, true, true, true, true, true, true, true, true] rfl rfl (any_of HT_.out (by kernel_rfl)) (fun _ _ _ h => h) (Or.inl ⟨by rfl, ?_⟩) ?_ ?_
      rotate_left
      · intro w'
        go_simp
        with_reducible rfl
      rotate_left
      · simp only [Act.put, List.setIfInBounds_toArray, List.set_cons_zero, List.set_cons_succ, i64_w, i32_w]
        rfl
      refine done_ (done_of HT_.out (by kernel_rfl)) ?_
      obtain ⟨HGz12, hgz12⟩ := HI0.out
      have hcz12_0 := cellS119_0 HGz12
      have hcz12_1 := cellS119_1 HGz12
      have hcz12_2 := cellS119_2 HGz12
      have hfz12_0 := blk_frozen HGz12 0
      have hfz12_1 := blk_frozen HGz12 1
      have hfz12_2 := blk_frozen HGz12 2
      clear HGz12 hgz12
      try go_wp2_with (first | (go_at_call 71; go_in) | ((try simp only [Exit.inBlock, Exit.then]); refine bodyPost_end (results_none rfl _ _ _) rfl ?_; simp only []; go_at_K))
      go_ret
      exact ⟨by first | rfl | (simp [errW_none, errW_some] <;> rfl) | (simp [*, errW_none, errW_some] <;> rfl), by repeat (first | (with_reducible first | exact HI0.out | apply IsS119.alloc | apply IsS119.drewN | apply IsS119.drew | apply IsS119.set_0 | apply IsS119.set_1 | apply IsS119.set_2) | exact HI0.out), by repeat (first | (with_reducible first | exact HB.out | apply below_alloc | apply pw_below_drewN | apply below_drew1 | refine below_set ?_ (IsS119.ge HI0.out)) | exact HB.out), by repeat (first | (with_reducible first | exact HK.out | apply KeepBut.set_ | apply keep_drewN | apply keep_drew | apply keep_alloc) | exact HK.out)⟩
  · rw [if_neg c2] at H
    have c2b0 : (s0_2 == 0) = false := beq_eq_false_iff_ne.mpr c2
    have c2b1 : (s0_2 != 0) = true := bne_iff_ne.mpr c2
    simp only [Option.some.injEq, Prod.mk.injEq] at H
    obtain ⟨rfl, rfl, rfl, rfl⟩ := H
    obtain ⟨HGz13, hgz13⟩ := HI0.out
    have hcz13_0 := cellS119_0 HGz13
    have hcz13_1 := cellS119_1 HGz13
    have hcz13_2 := cellS119_2 HGz13
    have hfz13_0 := blk_frozen HGz13 0
    have hfz13_1 := blk_frozen HGz13 1
    have hfz13_2 := blk_frozen HGz13 2
    clear HGz13 hgz13
    go_enter Tryd.func46, Tryd.ntmps46
    go_wp2_with (first | (go_at_call 71; go_in) | ((try simp only [Exit.inBlock, Exit.then]); refine bodyPost_end (results_none rfl _ _ _) rfl ?_; simp only []; go_at_K))
    go_ret
    exact ⟨by first | rfl | (simp [errW_none, errW_some] <;> rfl) | (simp [*, errW_none, errW_some] <;> rfl), by repeat (first | (with_reducible first | exact HI0.out | apply IsS119.alloc | apply IsS119.drewN | apply IsS119.drew | apply IsS119.set_0 | apply IsS119.set_1 | apply IsS119.set_2) | exact HI0.out), by repeat (first | (with_reducible first | exact HB.out | apply below_alloc | apply pw_below_drewN | apply below_drew1 | refine below_set ?_ (IsS119.ge HI0.out)) | exact HB.out), by repeat (first | (with_reducible first | exact HK.out | apply KeepBut.set_ | apply keep_drewN | apply keep_drew | apply keep_alloc) | exact HK.out)⟩
end Go.Proofs.YtbgabhknmpbgiaaDoor.S
end
section
namespace Go.Proofs.YtbgabhknmpbgiaaDoor.S
open Go.RowKit Go.Proofs.YtbgabhknmpbgiaaDoorW.PrintWords Go.Proofs.YtbgabhknmpbgiaaDoorW.PrintLast Go.Proofs.YtbgabhknmpbgiaaDoorW.PrintMore
attribute [local go_sem] max2_int min2_int max_two min_two max_three min_three max_four min_four
set_option linter.unusedVariables false
set_option linter.unusedSimpArgs false
def codec_Reader_Unsigned_1.f (k : Nat) (a0 : ByteArray) (a1 : Int) : Option (Int × Int × Bool) := (codec_raw.f k a0 a1 3).bind fun bt134 => (some (bt134.1, bt134.2.1, bt134.2.2))
set_option maxHeartbeats 8000000 in
set_option maxRecDepth 100000 in
theorem codec_Reader_Unsigned_1.calls (k : Nat) (a0 : ByteArray) (a1 : Int) (r1 : Int) (r2 : Int) (r3 : Bool) (w : World) (hG : Glob w) (h : codec_Reader_Unsigned_1.f k a0 a1 = some (r1, r2, r3)) :
    Calls Tryd.prog 74 #[.string a0, .int .i64 a1] w fun e w' => e = .returned (.tuple #[.int .u64 r1, .int .i64 r2, .bool r3]) ∧ Below w.heap.size w w' := by
  have HG := Aside0.mk hG
  clear hG
  have HB := Aside0.mk (Below.refl w.heap.size w)
  have H : ((codec_raw.f k a0 a1 3).bind fun bt134 => (some (bt134.1, bt134.2.1, bt134.2.2))) = some (r1, r2, r3) := h
  clear h
  replace H := Option.bind_eq_some_iff.mp H
  obtain ⟨⟨t134, t135, t136⟩, A30, H⟩ := H
  replace H : (some (t134, t135, t136)) = some (r1, r2, r3) := H
  have A3 := Aside0.mk A30
  clear A30
  simp only [Option.some.injEq, Prod.mk.injEq] at H
  obtain ⟨rfl, rfl, rfl⟩ := H
  go_enter Tryd.func74, Tryd.ntmps74
  go_wp2_with (first | ((with_reducible refine gate_callee (f := 75) rfl ?_); refine goesL_ (some 9) rfl rfl Tryd.func75 (by kernel_rfl) rfl #[.string a0, .int .i64 a1, .int .i64 3] rfl (by (try simp only [List.map_toArray, List.map_cons, List.map_nil]); first | done | rfl | (simp only [List.length_drop, List.length_take]; rfl)) ?_; (with_reducible refine (codec_raw.calls k a0 a1 3 t134 t135 t136 _ ?side99  A3.out).mono ?_); (case side99 => first | exact HG.out | exact Glob.below HG.out (by repeat (first | (with_reducible first | exact HB.out | apply below_alloc | apply pw_below_drewN | apply below_drew1) | exact HB.out))); rintro e w4 ⟨rfl, hb⟩; refine ⟨_, rfl, ?_⟩; have n0_ := Aside0.mk (below_step (by repeat (first | (with_reducible first | exact HB.out | apply below_alloc | apply pw_below_drewN | apply below_drew1) | exact HB.out)) hb); clear HB; have HB := n0_; clear n0_; (try clear hb); (try clear hb2); (try clear hk); (try clear hi)))
  go_ret3
  exact ⟨by first | rfl | (simp [errW_none, errW_some] <;> rfl) | (simp [*, errW_none, errW_some] <;> rfl), by repeat (first | (with_reducible first | exact HB.out | apply below_alloc | apply pw_below_drewN | apply below_drew1) | exact HB.out)⟩
end Go.Proofs.YtbgabhknmpbgiaaDoor.S
end
