/- SegmentPartsCard: one part of the proof that the law answers true for every input, and that its arguments read afterwards as before. No condition. -/
import Derived.Test.YtbgabhknmpbgiaaDoorCParts2
import Derived.Outline
import Derived.Deep.OwnRows
section
namespace Go.Proofs.YtbgabhknmpbgiaaDoor.S
open Go.RowKit Go.Proofs.YtbgabhknmpbgiaaDoorW.PrintWords Go.Proofs.YtbgabhknmpbgiaaDoorW.PrintLast Go.Proofs.YtbgabhknmpbgiaaDoorW.PrintMore
attribute [local go_sem] max2_int min2_int max_two min_two max_three min_three max_four min_four
set_option linter.unusedVariables false
set_option linter.unusedSimpArgs false
def codec_Reader_Bool.f (k : Nat) (s0_0 : ByteArray) (s0_1 : Int) (s0_2 : Int) : Option (Bool × ByteArray × Int × Int) := if s0_2 = 0 then ((codec_Reader_Bool_1.f k s0_0 s0_1).bind fun bt147 => (if bt147.2.2 = true then (some (bt147.1, s0_0, bt147.2.1, s0_2)) else (some (false, s0_0, s0_1, 2)))) else (some (false, s0_0, s0_1, s0_2))
def codec_Reader_Bool.T77004 : Bool × List (List Nat × List Nat) := (true, [([], []), ([], []), ([1], [1]), ([2], [2]), ([3], [3]), ([], []), ([5], [5]), ([6], [6]), ([7], [7]), ([0, 4, 8], [0, 4, 8]), ([9], [9]), ([10], [10]), ([10], [10]), ([10], [10]), ([11, 9, 0, 1, 2, 3, 4, 5, 6, 7, 8, 9, 10, 11], [11]), ([12, 14, 0, 1, 2, 3, 4, 5, 6, 7, 8, 9, 10, 11, 12, 14], [12]), ([13, 15, 0, 1, 2, 3, 4, 5, 6, 7, 8, 9, 10, 11, 12, 13, 14, 15], [13])])
def codec_Reader_Bool.B77004 : List Nat := [0, 0, 2, 6, 14, 0, 32, 96, 224, 511, 1023, 2047, 2047, 2047, 4095, 24575, 65535]
theorem codec_Reader_Bool.tab77004 : rtab .any (opsOf Tryd.f77 4) = codec_Reader_Bool.T77004 := by kernel_rfl
theorem codec_Reader_Bool.bits77004 : waitsOk codec_Reader_Bool.T77004.2 codec_Reader_Bool.B77004 = true := by kernel_rfl
set_option maxHeartbeats 8000000 in
set_option maxRecDepth 100000 in
theorem codec_Reader_Bool.calls (k : Nat) (g : Nat) (s0_0 : ByteArray) (s0_1 : Int) (s0_2 : Int) (r1 : Bool) (r2 : ByteArray) (r3 : Int) (r4 : Int) (w0 w : World) (hG : Glob w0) (hI : IsS119 w0 w g s0_0 s0_1 s0_2) (hB : Below w0.heap.size w0 w) (h : codec_Reader_Bool.f k s0_0 s0_1 s0_2 = some (r1, r2, r3, r4)) :
  Calls Tryd.prog 49 #[.pointer (some ⟨g, 0, none⟩)] w fun e w' => e = .returned (.bool r1) ∧ IsS119 w0 w' g r2 r3 r4 ∧ Below w0.heap.size w0 w' ∧ KeepBut w w' g none := by
 have hmf_ : ∀ (fn : Fn) (first cap : Array Value) (w : World), (Instr.makeFunc fn first cap).run Tryd.prog w = .ok (.func fn first cap) w := fun _ _ _ _ => rfl
 have HG := Aside0.mk hG
 clear hG
 have HI0 := Aside0.mk hI
 have HK := Aside0.mk (KeepBut.refl w g none)
 have HL := Aside0.mk hB.size
 clear hI
 have HW0 := Aside0.mk hB.size
 have HB := Aside0.mk hB
 clear hB
 have H : (if s0_2 = 0 then ((codec_Reader_Bool_1.f k s0_0 s0_1).bind fun bt147 => (if bt147.2.2 = true then (some (bt147.1, s0_0, bt147.2.1, s0_2)) else (some (false, s0_0, s0_1, 2)))) else (some (false, s0_0, s0_1, s0_2))) = some (r1, r2, r3, r4) := h
 clear h
 by_cases c2 : s0_2 = 0
 ·rw [if_pos c2] at H
  have c2b0 : (s0_2 == 0) = true := beq_iff_eq.mpr c2
  have c2b1 : (s0_2 != 0) = false := bne_eq_false_iff_eq.mpr c2
  clear c2
  replace H := Option.bind_eq_some_iff.mp H
  obtain ⟨⟨t147, t148, t149⟩, A30, H⟩ := H
  replace H : (if t149 = true then (some (t147, s0_0, t148, s0_2)) else (some (false, s0_0, s0_1, 2))) = some (r1, r2, r3, r4) := H
  have A3 := Aside0.mk A30
  clear A30
  by_cases c4 : t149 = true
  ·subst c4
   have H1 : (some (t147, s0_0, t148, s0_2)) = some (r1, r2, r3, r4) := by rw [if_pos rfl] at H; exact H
   clear H
   have H := H1
   clear H1
   simp only [Option.some.injEq, Prod.mk.injEq] at H
   obtain ⟨rfl, rfl, rfl, rfl⟩ := H
   obtain ⟨HGz5, hgz5⟩ := HI0.out
   have hcz5_0 := cellS119_0 HGz5
   have hcz5_1 := cellS119_1 HGz5
   have hcz5_2 := cellS119_2 HGz5
   have hfz5_0 := blk_frozen HGz5 0
   have hfz5_1 := blk_frozen HGz5 1
   have hfz5_2 := blk_frozen HGz5 2
   clear HGz5 hgz5
   go_enter Tryd.func49, Tryd.ntmps49
   try go_wp2_with (first | (go_at_call 77; go_in) | ((try simp only [Exit.inBlock, Exit.then]); refine bodyPost_end (results_none rfl _ _ _) rfl ?_; simp only []; go_at_K))
   have n0_ := Aside0.mk (IsS119.drew HI0.out)
   have n1_ := Aside0.mk (keep_drew HK.out)
   have n2_ := Aside0.mk (below_drew1 HB.out)
   clear HI0
   clear HK
   clear HB
   have HI0 := n0_
   have HK := n1_
   have HB := n2_
   clear n0_ n1_ n2_
   refine start_ (n := 17) (S := fun w' => w'.cell? ⟨g, 0, none⟩ = some (.string s0_0) ∧ w'.cell? ⟨g, 1, none⟩ = some (.int .i64 s0_1) ∧ w'.cell? ⟨g, 2, none⟩ = some (.int .i64 s0_2)) (ds := []) #[Yn, Yn, Yn, Yn, Yn, Yn, Yn, Yn, Yn, Yn, Yn, Yn, Yn, Yn, Yn, Yn, Yn] (by kernel_rfl) rfl rfl ⟨(blk_cell (Aside0.mk HI0.out.1).out 0).trans rfl, (blk_cell (Aside0.mk HI0.out.1).out 1).trans rfl, (blk_cell (Aside0.mk HI0.out.1).out 2).trans rfl⟩ (fun hHeld => ?_); refine with_tabW codec_Reader_Bool.tab77004 codec_Reader_Bool.bits77004 (fun HT_ HW_ => ?_)
   generalize w.drew = w6 at HI0 HK HB hHeld ⊢
   refine pure_ (i := 0) (N := some 16) (v := ?_) (a' := ?_) #[Y, Yn, Yn, Yn, Yn, Yn, Yn, Yn, Yn, Yn, Yn, Yn, Yn, Yn, Yn, Yn, Yn] rfl rfl (any_of HT_.out (by kernel_rfl)) (fun _ _ _ h => h) (Or.inl ⟨by rfl, ?_⟩) ?_ ?_
   rotate_left
   ·intro w'
    go_simp
    with_reducible rfl
   rotate_left
   ·simp only [Act.put, List.setIfInBounds_toArray, List.set_cons_zero, List.set_cons_succ, i64_w, i32_w]
    rfl
   refine pure_ (i := 1) (N := some 17) (v := ?_) (a' := ?_) #[Y, Y, Yn, Yn, Yn, Yn, Yn, Yn, Yn, Yn, Yn, Yn, Yn, Yn, Yn, Yn, Yn] rfl rfl (any_of HT_.out (by kernel_rfl)) (fun _ _ _ h => h) (Or.inl ⟨by rfl, ?_⟩) ?_ ?_
   rotate_left
   ·intro w'
    go_simp
    with_reducible rfl
   rotate_left
   ·simp only [Act.put, List.setIfInBounds_toArray, List.set_cons_zero, List.set_cons_succ, i64_w, i32_w]
    rfl
   refine pure_ (i := 2) (N := some 18) (v := ?_) (a' := ?_) #[Y, Y, Y, Yn, Yn, Yn, Yn, Yn, Yn, Yn, Yn, Yn, Yn, Yn, Yn, Yn, Yn] rfl rfl (any_of HT_.out (by kernel_rfl)) (fun _ _ _ h => h) (Or.inl ⟨by rfl, ?_⟩) ?_ ?_
   rotate_left
   ·intro w'
    go_simp
    with_reducible rfl
   rotate_left
   ·simp only [Act.put, List.setIfInBounds_toArray, List.set_cons_zero, List.set_cons_succ, i64_w, i32_w]
    rfl
   refine pure_ (i := 3) (N := some 19) (v := ?_) (a' := ?_) #[Y, Y, Y, Y, Yn, Yn, Yn, Yn, Yn, Yn, Yn, Yn, Yn, Yn, Yn, Yn, Yn] rfl rfl (any_of HT_.out (by kernel_rfl)) (fun _ _ _ h => h) (Or.inl ⟨by rfl, ?_⟩) ?_ ?_
   rotate_left
   ·intro w'
    go_simp
    with_reducible rfl
   rotate_left
   ·simp only [Act.put, List.setIfInBounds_toArray, List.set_cons_zero, List.set_cons_succ, i64_w, i32_w]
    rfl
   refine pure_ (i := 5) (N := some 21) (v := ?_) (a' := ?_) #[Y, Y, Y, Y, Yn, Y, Yn, Yn, Yn, Yn, Yn, Yn, Yn, Yn, Yn, Yn, Yn] rfl rfl (any_of HT_.out (by kernel_rfl)) (fun _ _ _ h => h) (Or.inl ⟨by rfl, ?_⟩) ?_ ?_
   rotate_left
   ·intro w'
    go_simp
    with_reducible rfl
   rotate_left
   ·simp only [Act.put, List.setIfInBounds_toArray, List.set_cons_zero, List.set_cons_succ, i64_w, i32_w]
    rfl
   refine pure_ (i := 6) (N := some 22) (v := ?_) (a' := ?_) #[Y, Y, Y, Y, Yn, Y, Y, Yn, Yn, Yn, Yn, Yn, Yn, Yn, Yn, Yn, Yn] rfl rfl (any_of HT_.out (by kernel_rfl)) (fun _ _ _ h => h) (Or.inl ⟨by rfl, ?_⟩) ?_ ?_
   rotate_left
   ·intro w'
    go_simp
    with_reducible rfl
   rotate_left
   ·simp only [Act.put, List.setIfInBounds_toArray, List.set_cons_zero, List.set_cons_succ, i64_w, i32_w]
    rfl
   refine pure_ (i := 7) (N := some 23) (v := ?_) (a' := ?_) #[Y, Y, Y, Y, Yn, Y, Y, Y, Yn, Yn, Yn, Yn, Yn, Yn, Yn, Yn, Yn] rfl rfl (any_of HT_.out (by kernel_rfl)) (fun _ _ _ h => h) (Or.inl ⟨by rfl, ?_⟩) ?_ ?_
   rotate_left
   ·intro w'
    go_simp
    with_reducible rfl
   rotate_left
   ·simp only [Act.put, List.setIfInBounds_toArray, List.set_cons_zero, List.set_cons_succ, i64_w, i32_w]
    rfl
   refine take_ (i := 4) (N := some 20) (v := ?_) (a' := ?_) #[Y, Y, Y, Y, Y, Y, Y, Y, Yn, Yn, Yn, Yn, Yn, Yn, Yn, Yn, Yn] rfl rfl (take_ofW HT_.out HW_.out (by kernel_rfl)) (fun _ _ _ h => h) (Or.inl ⟨by rfl, ?_⟩) hHeld ?_ ?_
   rotate_left
   ·rintro w' ⟨s0, s1, s2⟩
    go_simp
    with_reducible rfl
   rotate_left
   ·simp only [Act.put, List.setIfInBounds_toArray, List.set_cons_zero, List.set_cons_succ, i64_w, i32_w]
    rfl
   refine take_ (i := 8) (N := some 24) (v := ?_) (a' := ?_) #[Y, Y, Y, Y, Y, Y, Y, Y, Y, Yn, Yn, Yn, Yn, Yn, Yn, Yn, Yn] rfl rfl (take_ofW HT_.out HW_.out (by kernel_rfl)) (fun _ _ _ h => h) (Or.inl ⟨by rfl, ?_⟩) hHeld ?_ ?_
   rotate_left
   ·rintro w' ⟨s0, s1, s2⟩
    go_simp
    with_reducible rfl
   rotate_left
   ·simp only [Act.put, List.setIfInBounds_toArray, List.set_cons_zero, List.set_cons_succ, i64_w, i32_w]
    rfl
   refine one_ (i := 9) (N := some 25) #[Y, Y, Y, Y, Y, Y, Y, Y, Y, Y, Yn, Yn, Yn, Yn, Yn, Yn, Yn] rfl rfl (one_of HT_.out (by kernel_rfl)) (by decide) (fun K hK => ?_)
   refine goesT_ Tryd.func78 (by kernel_rfl) rfl #[.string s0_0, .int .i64 s0_1] (by rfl) rfl rfl rfl (by (try simp only [List.map_toArray, List.map_cons, List.map_nil]); first | done | rfl | (simp only [List.length_drop, List.length_take]; rfl)) ?_
   with_reducible refine (codec_Reader_Bool_1.calls k s0_0 s0_1 t147 t148 true _ ?side99  A3.out).mono ?_
   (case side99 => first | exact HG.out | exact Glob.below HG.out (by repeat (first | (with_reducible first | exact HB.out | apply below_alloc | apply pw_below_drewN | apply below_drew1 | refine below_set ?_ (IsS119.ge HI0.out)) | exact HB.out)))
   rintro e w' ⟨rfl, ⟨nd, rfl⟩⟩
   refine ⟨_, rfl, ?_⟩
   refine hK.out _ _ ⟨(blk_cell (Aside0.mk HI0.out.1).out 0).trans rfl, (blk_cell (Aside0.mk HI0.out.1).out 1).trans rfl, (blk_cell (Aside0.mk HI0.out.1).out 2).trans rfl⟩ (fun hHeld => ?_)
   clear hK K
   refine norm_ (a' := ?_) ?_ ?_
   rotate_left
   ·show Act.put _ (some 25) _ = _
    simp only [Act.put, List.setIfInBounds_toArray, List.set_cons_zero, List.set_cons_succ, i64_w, i32_w]
    rfl
   refine pure_ (i := 10) (N := some 15) (v := ?_) (a' := ?_) #[Y, Y, Y, Y, Y, Y, Y, Y, Y, Y, Y, Yn, Yn, Yn, Yn, Yn, Yn] rfl rfl (any_of HT_.out (by kernel_rfl)) (fun _ _ _ h => h) (Or.inl ⟨by rfl, ?_⟩) ?_ ?_
   rotate_left
   ·intro w'
    go_simp
    with_reducible rfl
   rotate_left
   ·simp only [Act.put, List.setIfInBounds_toArray, List.set_cons_zero, List.set_cons_succ, i64_w, i32_w]
    rfl
   refine pure_ (i := 11) (N := some 26) (v := ?_) (a' := ?_) #[Y, Y, Y, Y, Y, Y, Y, Y, Y, Y, Y, Y, Yn, Yn, Yn, Yn, Yn] rfl rfl (any_of HT_.out (by kernel_rfl)) (fun _ _ _ h => h) (Or.inl ⟨by rfl, ?_⟩) ?_ ?_
   rotate_left
   ·intro w'
    go_simp
    with_reducible rfl
   rotate_left
   ·simp only [Act.put, List.setIfInBounds_toArray, List.set_cons_zero, List.set_cons_succ, i64_w, i32_w]
    rfl
   refine pure_ (i := 12) (N := some 27) (v := ?_) (a' := ?_) #[Y, Y, Y, Y, Y, Y, Y, Y, Y, Y, Y, Y, Y, Yn, Yn, Yn, Yn] rfl rfl (any_of HT_.out (by kernel_rfl)) (fun _ _ _ h => h) (Or.inl ⟨by rfl, ?_⟩) ?_ ?_
   rotate_left
   ·intro w'
    go_simp
    with_reducible rfl
   rotate_left
   ·simp only [Act.put, List.setIfInBounds_toArray, List.set_cons_zero, List.set_cons_succ, i64_w, i32_w]
    rfl
   refine pure_ (i := 13) (N := some 28) (v := ?_) (a' := ?_) #[Y, Y, Y, Y, Y, Y, Y, Y, Y, Y, Y, Y, Y, Y, Yn, Yn, Yn] rfl rfl (any_of HT_.out (by kernel_rfl)) (fun _ _ _ h => h) (Or.inl ⟨by rfl, ?_⟩) ?_ ?_
   rotate_left
   ·intro w'
    go_simp
    with_reducible rfl
   rotate_left
   ·simp only [Act.put, List.setIfInBounds_toArray, List.set_cons_zero, List.set_cons_succ, i64_w, i32_w]
    rfl
   refine pure_ (i := 14) (N := some 6) (v := ?_) (a' := ?_) #[Y, Y, Y, Y, Y, Y, Y, Y, Y, Y, Y, Y, Y, Y, Y, Yn, Yn] rfl rfl (any_of HT_.out (by kernel_rfl)) (fun _ _ _ h => h) (Or.inl ⟨by rfl, ?_⟩) ?_ ?_
   rotate_left
   ·intro w'
    go_simp
    with_reducible rfl
   rotate_left
   ·simp only [Act.put, List.setIfInBounds_toArray, List.set_cons_zero, List.set_cons_succ, i64_w, i32_w]
    rfl
   refine pure_ (i := 15) (N := some 7) (v := ?_) (a' := ?_) #[Y, Y, Y, Y, Y, Y, Y, Y, Y, Y, Y, Y, Y, Y, Y, Y, Yn] rfl rfl (any_of HT_.out (by kernel_rfl)) (fun _ _ _ h => h) (Or.inl ⟨by rfl, ?_⟩) ?_ ?_
   rotate_left
   ·intro w'
    go_simp
    with_reducible rfl
   rotate_left
   ·simp only [Act.put, List.setIfInBounds_toArray, List.set_cons_zero, List.set_cons_succ, i64_w, i32_w]
    rfl
   refine pure_ (i := 16) (N := some 8) (v := ?_) (a' := ?_) #[Y, Y, Y, Y, Y, Y, Y, Y, Y, Y, Y, Y, Y, Y, Y, Y, Y] rfl rfl (any_of HT_.out (by kernel_rfl)) (fun _ _ _ h => h) (Or.inl ⟨by rfl, ?_⟩) ?_ ?_
   rotate_left
   ·intro w'
    go_simp
    with_reducible rfl
   rotate_left
   ·simp only [Act.put, List.setIfInBounds_toArray, List.set_cons_zero, List.set_cons_succ, i64_w, i32_w]
    rfl
   refine done_ (done_of HT_.out (by kernel_rfl)) ?_
   obtain ⟨HGz7, hgz7⟩ := HI0.out
   have hcz7_0 := cellS119_0 HGz7
   have hcz7_1 := cellS119_1 HGz7
   have hcz7_2 := cellS119_2 HGz7
   have hfz7_0 := blk_frozen HGz7 0
   have hfz7_1 := blk_frozen HGz7 1
   have hfz7_2 := blk_frozen HGz7 2
   clear HGz7 hgz7
   try go_wp2_with (first | (go_at_call 77; go_in) | ((try simp only [Exit.inBlock, Exit.then]); refine bodyPost_end (results_none rfl _ _ _) rfl ?_; simp only []; go_at_K))
   go_ret
   exact ⟨by first | rfl | (simp [errW_none, errW_some] <;> rfl) | (simp [*, errW_none, errW_some] <;> rfl), by repeat (first | (with_reducible first | exact HI0.out | apply IsS119.alloc | apply IsS119.drewN | apply IsS119.drew | apply IsS119.set_0 | apply IsS119.set_1 | apply IsS119.set_2) | exact HI0.out), by repeat (first | (with_reducible first | exact HB.out | apply below_alloc | apply pw_below_drewN | apply below_drew1 | refine below_set ?_ (IsS119.ge HI0.out)) | exact HB.out), by repeat (first | (with_reducible first | exact HK.out | apply KeepBut.set_ | apply keep_drewN | apply keep_drew | apply keep_alloc) | exact HK.out)⟩
  ·replace c4 := Bool.eq_false_iff.mpr c4
   subst c4
   have H1 : (some (false, s0_0, s0_1, 2)) = some (r1, r2, r3, r4) := by rw [if_neg (show ¬ (false = true) by decide)] at H; exact H
   clear H
   have H := H1
   clear H1
   simp only [Option.some.injEq, Prod.mk.injEq] at H
   obtain ⟨rfl, rfl, rfl, rfl⟩ := H
   obtain ⟨HGz8, hgz8⟩ := HI0.out
   have hcz8_0 := cellS119_0 HGz8
   have hcz8_1 := cellS119_1 HGz8
   have hcz8_2 := cellS119_2 HGz8
   have hfz8_0 := blk_frozen HGz8 0
   have hfz8_1 := blk_frozen HGz8 1
   have hfz8_2 := blk_frozen HGz8 2
   clear HGz8 hgz8
   go_enter Tryd.func49, Tryd.ntmps49
   try go_wp2_with (first | (go_at_call 77; go_in) | ((try simp only [Exit.inBlock, Exit.then]); refine bodyPost_end (results_none rfl _ _ _) rfl ?_; simp only []; go_at_K))
   have n0_ := Aside0.mk (IsS119.drew HI0.out)
   have n1_ := Aside0.mk (keep_drew HK.out)
   have n2_ := Aside0.mk (below_drew1 HB.out)
   clear HI0
   clear HK
   clear HB
   have HI0 := n0_
   have HK := n1_
   have HB := n2_
   clear n0_ n1_ n2_
   refine start_ (n := 17) (S := fun w' => w'.cell? ⟨g, 0, none⟩ = some (.string s0_0) ∧ w'.cell? ⟨g, 1, none⟩ = some (.int .i64 s0_1) ∧ w'.cell? ⟨g, 2, none⟩ = some (.int .i64 s0_2)) (ds := []) #[Yn, Yn, Yn, Yn, Yn, Yn, Yn, Yn, Yn, Yn, Yn, Yn, Yn, Yn, Yn, Yn, Yn] (by kernel_rfl) rfl rfl ⟨(blk_cell (Aside0.mk HI0.out.1).out 0).trans rfl, (blk_cell (Aside0.mk HI0.out.1).out 1).trans rfl, (blk_cell (Aside0.mk HI0.out.1).out 2).trans rfl⟩ (fun hHeld => ?_); refine with_tabW codec_Reader_Bool.tab77004 codec_Reader_Bool.bits77004 (fun HT_ HW_ => ?_)
   generalize w.drew = w9 at HI0 HK HB hHeld ⊢
   refine pure_ (i := 0) (N := some 16) (v := ?_) (a' := ?_) #[Y, Yn, Yn, Yn, Yn, Yn, Yn, Yn, Yn, Yn, Yn, Yn, Yn, Yn, Yn, Yn, Yn] rfl rfl (any_of HT_.out (by kernel_rfl)) (fun _ _ _ h => h) (Or.inl ⟨by rfl, ?_⟩) ?_ ?_
   rotate_left
   ·intro w'
    go_simp
    with_reducible rfl
   rotate_left
   ·simp only [Act.put, List.setIfInBounds_toArray, List.set_cons_zero, List.set_cons_succ, i64_w, i32_w]
    rfl
   refine pure_ (i := 1) (N := some 17) (v := ?_) (a' := ?_) #[Y, Y, Yn, Yn, Yn, Yn, Yn, Yn, Yn, Yn, Yn, Yn, Yn, Yn, Yn, Yn, Yn] rfl rfl (any_of HT_.out (by kernel_rfl)) (fun _ _ _ h => h) (Or.inl ⟨by rfl, ?_⟩) ?_ ?_
   rotate_left
   ·intro w'
    go_simp
    with_reducible rfl
   rotate_left
   ·simp only [Act.put, List.setIfInBounds_toArray, List.set_cons_zero, List.set_cons_succ, i64_w, i32_w]
    rfl
   refine pure_ (i := 2) (N := some 18) (v := ?_) (a' := ?_) #[Y, Y, Y, Yn, Yn, Yn, Yn, Yn, Yn, Yn, Yn, Yn, Yn, Yn, Yn, Yn, Yn] rfl rfl (any_of HT_.out (by kernel_rfl)) (fun _ _ _ h => h) (Or.inl ⟨by rfl, ?_⟩) ?_ ?_
   rotate_left
   ·intro w'
    go_simp
    with_reducible rfl
   rotate_left
   ·simp only [Act.put, List.setIfInBounds_toArray, List.set_cons_zero, List.set_cons_succ, i64_w, i32_w]
    rfl
   refine pure_ (i := 3) (N := some 19) (v := ?_) (a' := ?_) #[Y, Y, Y, Y, Yn, Yn, Yn, Yn, Yn, Yn, Yn, Yn, Yn, Yn, Yn, Yn, Yn] rfl rfl (any_of HT_.out (by kernel_rfl)) (fun _ _ _ h => h) (Or.inl ⟨by rfl, ?_⟩) ?_ ?_
   rotate_left
   ·intro w'
    go_simp
    with_reducible rfl
   rotate_left
   ·simp only [Act.put, List.setIfInBounds_toArray, List.set_cons_zero, List.set_cons_succ, i64_w, i32_w]
    rfl
   refine pure_ (i := 5) (N := some 21) (v := ?_) (a' := ?_) #[Y, Y, Y, Y, Yn, Y, Yn, Yn, Yn, Yn, Yn, Yn, Yn, Yn, Yn, Yn, Yn] rfl rfl (any_of HT_.out (by kernel_rfl)) (fun _ _ _ h => h) (Or.inl ⟨by rfl, ?_⟩) ?_ ?_
   rotate_left
   ·intro w'
    go_simp
    with_reducible rfl
   rotate_left
   ·simp only [Act.put, List.setIfInBounds_toArray, List.set_cons_zero, List.set_cons_succ, i64_w, i32_w]
    rfl
   refine pure_ (i := 6) (N := some 22) (v := ?_) (a' := ?_) #[Y, Y, Y, Y, Yn, Y, Y, Yn, Yn, Yn, Yn, Yn, Yn, Yn, Yn, Yn, Yn] rfl rfl (any_of HT_.out (by kernel_rfl)) (fun _ _ _ h => h) (Or.inl ⟨by rfl, ?_⟩) ?_ ?_
   rotate_left
   ·intro w'
    go_simp
    with_reducible rfl
   rotate_left
   ·simp only [Act.put, List.setIfInBounds_toArray, List.set_cons_zero, List.set_cons_succ, i64_w, i32_w]
    rfl
   refine pure_ (i := 7) (N := some 23) (v := ?_) (a' := ?_) #[Y, Y, Y, Y, Yn, Y, Y, Y, Yn, Yn, Yn, Yn, Yn, Yn, Yn, Yn, Yn] rfl rfl (any_of HT_.out (by kernel_rfl)) (fun _ _ _ h => h) (Or.inl ⟨by rfl, ?_⟩) ?_ ?_
   rotate_left
   ·intro w'
    go_simp
    with_reducible rfl
   rotate_left
   ·simp only [Act.put, List.setIfInBounds_toArray, List.set_cons_zero, List.set_cons_succ, i64_w, i32_w]
    rfl
   refine take_ (i := 4) (N := some 20) (v := ?_) (a' := ?_) #[Y, Y, Y, Y, Y, Y, Y, Y, Yn, Yn, Yn, Yn, Yn, Yn, Yn, Yn, Yn] rfl rfl (take_ofW HT_.out HW_.out (by kernel_rfl)) (fun _ _ _ h => h) (Or.inl ⟨by rfl, ?_⟩) hHeld ?_ ?_
   rotate_left
   ·rintro w' ⟨s0, s1, s2⟩
    go_simp
    with_reducible rfl
   rotate_left
   ·simp only [Act.put, List.setIfInBounds_toArray, List.set_cons_zero, List.set_cons_succ, i64_w, i32_w]
    rfl
   refine take_ (i := 8) (N := some 24) (v := ?_) (a' := ?_) #[Y, Y, Y, Y, Y, Y, Y, Y, Y, Yn, Yn, Yn, Yn, Yn, Yn, Yn, Yn] rfl rfl (take_ofW HT_.out HW_.out (by kernel_rfl)) (fun _ _ _ h => h) (Or.inl ⟨by rfl, ?_⟩) hHeld ?_ ?_
   rotate_left
   ·rintro w' ⟨s0, s1, s2⟩
    go_simp
    with_reducible rfl
   rotate_left
   ·simp only [Act.put, List.setIfInBounds_toArray, List.set_cons_zero, List.set_cons_succ, i64_w, i32_w]
    rfl
   refine one_ (i := 9) (N := some 25) #[Y, Y, Y, Y, Y, Y, Y, Y, Y, Y, Yn, Yn, Yn, Yn, Yn, Yn, Yn] rfl rfl (one_of HT_.out (by kernel_rfl)) (by decide) (fun K hK => ?_)
   refine goesT_ Tryd.func78 (by kernel_rfl) rfl #[.string s0_0, .int .i64 s0_1] (by rfl) rfl rfl rfl (by (try simp only [List.map_toArray, List.map_cons, List.map_nil]); first | done | rfl | (simp only [List.length_drop, List.length_take]; rfl)) ?_
   with_reducible refine (codec_Reader_Bool_1.calls k s0_0 s0_1 t147 t148 false _ ?side99  A3.out).mono ?_
   (case side99 => first | exact HG.out | exact Glob.below HG.out (by repeat (first | (with_reducible first | exact HB.out | apply below_alloc | apply pw_below_drewN | apply below_drew1 | refine below_set ?_ (IsS119.ge HI0.out)) | exact HB.out)))
   rintro e w' ⟨rfl, ⟨nd, rfl⟩⟩
   refine ⟨_, rfl, ?_⟩
   refine hK.out _ _ ⟨(blk_cell (Aside0.mk HI0.out.1).out 0).trans rfl, (blk_cell (Aside0.mk HI0.out.1).out 1).trans rfl, (blk_cell (Aside0.mk HI0.out.1).out 2).trans rfl⟩ (fun hHeld => ?_)
   clear hK K
   refine norm_ (a' := ?_) ?_ ?_
   rotate_left
   ·show Act.put _ (some 25) _ = _
    simp only [Act.put, List.setIfInBounds_toArray, List.set_cons_zero, List.set_cons_succ, i64_w, i32_w]
    rfl
   refine pure_ (i := 10) (N := some 15) (v := ?_) (a' := ?_) #[Y, Y, Y, Y, Y, Y, Y, Y, Y, Y, Y, Yn, Yn, Yn, Yn, Yn, Yn] rfl rfl (any_of HT_.out (by kernel_rfl)) (fun _ _ _ h => h) (Or.inl ⟨by rfl, ?_⟩) ?_ ?_
   rotate_left
   ·intro w'
    go_simp
    with_reducible rfl
   rotate_left
   ·simp only [Act.put, List.setIfInBounds_toArray, List.set_cons_zero, List.set_cons_succ, i64_w, i32_w]
    rfl
   refine pure_ (i := 11) (N := some 26) (v := ?_) (a' := ?_) #[Y, Y, Y, Y, Y, Y, Y, Y, Y, Y, Y, Y, Yn, Yn, Yn, Yn, Yn] rfl rfl (any_of HT_.out (by kernel_rfl)) (fun _ _ _ h => h) (Or.inl ⟨by rfl, ?_⟩) ?_ ?_
   rotate_left
   ·intro w'
    go_simp
    with_reducible rfl
   rotate_left
   ·simp only [Act.put, List.setIfInBounds_toArray, List.set_cons_zero, List.set_cons_succ, i64_w, i32_w]
    rfl
   refine pure_ (i := 12) (N := some 27) (v := ?_) (a' := ?_) #[Y, Y, Y, Y, Y, Y, Y, Y, Y, Y, Y, Y, Y, Yn, Yn, Yn, Yn] rfl rfl (any_of HT_.out (by kernel_rfl)) (fun _ _ _ h => h) (Or.inl ⟨by rfl, ?_⟩) ?_ ?_
   rotate_left
   ·intro w'
    go_simp
    with_reducible rfl
   rotate_left
   ·simp only [Act.put, List.setIfInBounds_toArray, List.set_cons_zero, List.set_cons_succ, i64_w, i32_w]
    rfl
   refine pure_ (i := 13) (N := some 28) (v := ?_) (a' := ?_) #[Y, Y, Y, Y, Y, Y, Y, Y, Y, Y, Y, Y, Y, Y, Yn, Yn, Yn] rfl rfl (any_of HT_.out (by kernel_rfl)) (fun _ _ _ h => h) (Or.inl ⟨by rfl, ?_⟩) ?_ ?_
   rotate_left
   ·intro w'
    go_simp
    with_reducible rfl
   rotate_left
   ·simp only [Act.put, List.setIfInBounds_toArray, List.set_cons_zero, List.set_cons_succ, i64_w, i32_w]
    rfl
   refine pure_ (i := 14) (N := some 6) (v := ?_) (a' := ?_) #[Y, Y, Y, Y, Y, Y, Y, Y, Y, Y, Y, Y, Y, Y, Y, Yn, Yn] rfl rfl (any_of HT_.out (by kernel_rfl)) (fun _ _ _ h => h) (Or.inl ⟨by rfl, ?_⟩) ?_ ?_
   rotate_left
   ·intro w'
    go_simp
    with_reducible rfl
   rotate_left
   ·simp only [Act.put, List.setIfInBounds_toArray, List.set_cons_zero, List.set_cons_succ, i64_w, i32_w]
    rfl
   refine pure_ (i := 15) (N := some 7) (v := ?_) (a' := ?_) #[Y, Y, Y, Y, Y, Y, Y, Y, Y, Y, Y, Y, Y, Y, Y, Y, Yn] rfl rfl (any_of HT_.out (by kernel_rfl)) (fun _ _ _ h => h) (Or.inl ⟨by rfl, ?_⟩) ?_ ?_
   rotate_left
   ·intro w'
    go_simp
    with_reducible rfl
   rotate_left
   ·simp only [Act.put, List.setIfInBounds_toArray, List.set_cons_zero, List.set_cons_succ, i64_w, i32_w]
    rfl
   refine pure_ (i := 16) (N := some 8) (v := ?_) (a' := ?_) #[Y, Y, Y, Y, Y, Y, Y, Y, Y, Y, Y, Y, Y, Y, Y, Y, Y] rfl rfl (any_of HT_.out (by kernel_rfl)) (fun _ _ _ h => h) (Or.inl ⟨by rfl, ?_⟩) ?_ ?_
   rotate_left
   ·intro w'
    go_simp
    with_reducible rfl
   rotate_left
   ·simp only [Act.put, List.setIfInBounds_toArray, List.set_cons_zero, List.set_cons_succ, i64_w, i32_w]
    rfl
   refine done_ (done_of HT_.out (by kernel_rfl)) ?_
   obtain ⟨HGz10, hgz10⟩ := HI0.out
   have hcz10_0 := cellS119_0 HGz10
   have hcz10_1 := cellS119_1 HGz10
   have hcz10_2 := cellS119_2 HGz10
   have hfz10_0 := blk_frozen HGz10 0
   have hfz10_1 := blk_frozen HGz10 1
   have hfz10_2 := blk_frozen HGz10 2
   clear HGz10 hgz10
   try go_wp2_with (first | (go_at_call 77; go_in) | ((try simp only [Exit.inBlock, Exit.then]); refine bodyPost_end (results_none rfl _ _ _) rfl ?_; simp only []; go_at_K))
   go_ret
   exact ⟨by first | rfl | (simp [errW_none, errW_some] <;> rfl) | (simp [*, errW_none, errW_some] <;> rfl), by repeat (first | (with_reducible first | exact HI0.out | apply IsS119.alloc | apply IsS119.drewN | apply IsS119.drew | apply IsS119.set_0 | apply IsS119.set_1 | apply IsS119.set_2) | exact HI0.out), by repeat (first | (with_reducible first | exact HB.out | apply below_alloc | apply pw_below_drewN | apply below_drew1 | refine below_set ?_ (IsS119.ge HI0.out)) | exact HB.out), by repeat (first | (with_reducible first | exact HK.out | apply KeepBut.set_ | apply keep_drewN | apply keep_drew | apply keep_alloc) | exact HK.out)⟩
 ·rw [if_neg c2] at H
  have c2b0 : (s0_2 == 0) = false := beq_eq_false_iff_ne.mpr c2
  have c2b1 : (s0_2 != 0) = true := bne_iff_ne.mpr c2
  simp only [Option.some.injEq, Prod.mk.injEq] at H
  obtain ⟨rfl, rfl, rfl, rfl⟩ := H
  obtain ⟨HGz11, hgz11⟩ := HI0.out
  have hcz11_0 := cellS119_0 HGz11
  have hcz11_1 := cellS119_1 HGz11
  have hcz11_2 := cellS119_2 HGz11
  have hfz11_0 := blk_frozen HGz11 0
  have hfz11_1 := blk_frozen HGz11 1
  have hfz11_2 := blk_frozen HGz11 2
  clear HGz11 hgz11
  go_enter Tryd.func49, Tryd.ntmps49
  go_wp2_with (first | (go_at_call 77; go_in) | ((try simp only [Exit.inBlock, Exit.then]); refine bodyPost_end (results_none rfl _ _ _) rfl ?_; simp only []; go_at_K))
  go_ret
  exact ⟨by first | rfl | (simp [errW_none, errW_some] <;> rfl) | (simp [*, errW_none, errW_some] <;> rfl), by repeat (first | (with_reducible first | exact HI0.out | apply IsS119.alloc | apply IsS119.drewN | apply IsS119.drew | apply IsS119.set_0 | apply IsS119.set_1 | apply IsS119.set_2) | exact HI0.out), by repeat (first | (with_reducible first | exact HB.out | apply below_alloc | apply pw_below_drewN | apply below_drew1 | refine below_set ?_ (IsS119.ge HI0.out)) | exact HB.out), by repeat (first | (with_reducible first | exact HK.out | apply KeepBut.set_ | apply keep_drewN | apply keep_drew | apply keep_alloc) | exact HK.out)⟩
end Go.Proofs.YtbgabhknmpbgiaaDoor.S
end
section
namespace Go.Proofs.YtbgabhknmpbgiaaDoor.S
open Go.RowKit Go.Proofs.YtbgabhknmpbgiaaDoorW.PrintWords Go.Proofs.YtbgabhknmpbgiaaDoorW.PrintLast Go.Proofs.YtbgabhknmpbgiaaDoorW.PrintMore
attribute [local go_sem] max2_int min2_int max_two min_two max_three min_three max_four min_four
set_option linter.unusedVariables false
set_option linter.unusedSimpArgs false
def codec_Reader_Text.f (k : Nat) (s0_0 : ByteArray) (s0_1 : Int) (s0_2 : Int) : Option (ByteArray × ByteArray × Int × Int) := if s0_2 = 0 then ((codec_text.f k s0_0 s0_1).bind fun bt154 => (if bt154.2.2 = true then (some (bt154.1, s0_0, bt154.2.1, s0_2)) else (some ((⟨#[]⟩ : ByteArray), s0_0, s0_1, 2)))) else (some ((⟨#[]⟩ : ByteArray), s0_0, s0_1, s0_2))
def codec_Reader_Text.T80004 : Bool × List (List Nat × List Nat) := (true, [([], []), ([], []), ([1], [1]), ([2], [2]), ([3], [3]), ([], []), ([5], [5]), ([6], [6]), ([7], [7]), ([0, 4, 8], [0, 4, 8]), ([9], [9]), ([10], [10]), ([10], [10]), ([10], [10]), ([11, 9, 0, 1, 2, 3, 4, 5, 6, 7, 8, 9, 10, 11], [11]), ([12, 14, 0, 1, 2, 3, 4, 5, 6, 7, 8, 9, 10, 11, 12, 14], [12]), ([13, 15, 0, 1, 2, 3, 4, 5, 6, 7, 8, 9, 10, 11, 12, 13, 14, 15], [13])])
def codec_Reader_Text.B80004 : List Nat := [0, 0, 2, 6, 14, 0, 32, 96, 224, 511, 1023, 2047, 2047, 2047, 4095, 24575, 65535]
theorem codec_Reader_Text.tab80004 : rtab .any (opsOf Tryd.f80 4) = codec_Reader_Text.T80004 := by kernel_rfl
theorem codec_Reader_Text.bits80004 : waitsOk codec_Reader_Text.T80004.2 codec_Reader_Text.B80004 = true := by kernel_rfl
set_option maxHeartbeats 8000000 in
set_option maxRecDepth 100000 in
theorem codec_Reader_Text.calls (k : Nat) (g : Nat) (s0_0 : ByteArray) (s0_1 : Int) (s0_2 : Int) (r1 : ByteArray) (r2 : ByteArray) (r3 : Int) (r4 : Int) (w0 w : World) (hG : Glob w0) (hI : IsS119 w0 w g s0_0 s0_1 s0_2) (hB : Below w0.heap.size w0 w) (h : codec_Reader_Text.f k s0_0 s0_1 s0_2 = some (r1, r2, r3, r4)) :
  Calls Tryd.prog 50 #[.pointer (some ⟨g, 0, none⟩)] w fun e w' => e = .returned (.string r1) ∧ IsS119 w0 w' g r2 r3 r4 ∧ Below w0.heap.size w0 w' ∧ KeepBut w w' g none := by
 have hmf_ : ∀ (fn : Fn) (first cap : Array Value) (w : World), (Instr.makeFunc fn first cap).run Tryd.prog w = .ok (.func fn first cap) w := fun _ _ _ _ => rfl
 have HG := Aside0.mk hG
 clear hG
 have HI0 := Aside0.mk hI
 have HK := Aside0.mk (KeepBut.refl w g none)
 have HL := Aside0.mk hB.size
 clear hI
 have HW0 := Aside0.mk hB.size
 have HB := Aside0.mk hB
 clear hB
 have H : (if s0_2 = 0 then ((codec_text.f k s0_0 s0_1).bind fun bt154 => (if bt154.2.2 = true then (some (bt154.1, s0_0, bt154.2.1, s0_2)) else (some ((⟨#[]⟩ : ByteArray), s0_0, s0_1, 2)))) else (some ((⟨#[]⟩ : ByteArray), s0_0, s0_1, s0_2))) = some (r1, r2, r3, r4) := h
 clear h
 by_cases c2 : s0_2 = 0
 ·rw [if_pos c2] at H
  have c2b0 : (s0_2 == 0) = true := beq_iff_eq.mpr c2
  have c2b1 : (s0_2 != 0) = false := bne_eq_false_iff_eq.mpr c2
  clear c2
  replace H := Option.bind_eq_some_iff.mp H
  obtain ⟨⟨t154, t155, t156⟩, A30, H⟩ := H
  replace H : (if t156 = true then (some (t154, s0_0, t155, s0_2)) else (some ((⟨#[]⟩ : ByteArray), s0_0, s0_1, 2))) = some (r1, r2, r3, r4) := H
  have A3 := Aside0.mk A30
  clear A30
  by_cases c4 : t156 = true
  ·subst c4
   have H1 : (some (t154, s0_0, t155, s0_2)) = some (r1, r2, r3, r4) := by rw [if_pos rfl] at H; exact H
   clear H
   have H := H1
   clear H1
   simp only [Option.some.injEq, Prod.mk.injEq] at H
   obtain ⟨rfl, rfl, rfl, rfl⟩ := H
   obtain ⟨HGz5, hgz5⟩ := HI0.out
   have hcz5_0 := cellS119_0 HGz5
   have hcz5_1 := cellS119_1 HGz5
   have hcz5_2 := cellS119_2 HGz5
   have hfz5_0 := blk_frozen HGz5 0
   have hfz5_1 := blk_frozen HGz5 1
   have hfz5_2 := blk_frozen HGz5 2
   clear HGz5 hgz5
   go_enter Tryd.func50, Tryd.ntmps50
   try go_wp2_with (first | (go_at_call 80; go_in) | ((try simp only [Exit.inBlock, Exit.then]); refine bodyPost_end (results_none rfl _ _ _) rfl ?_; simp only []; go_at_K))
   have n0_ := Aside0.mk (IsS119.drew HI0.out)
   have n1_ := Aside0.mk (keep_drew HK.out)
   have n2_ := Aside0.mk (below_drew1 HB.out)
   clear HI0
   clear HK
   clear HB
   have HI0 := n0_
   have HK := n1_
   have HB := n2_
   clear n0_ n1_ n2_
   refine start_ (n := 17) (S := fun w' => w'.cell? ⟨g, 0, none⟩ = some (.string s0_0) ∧ w'.cell? ⟨g, 1, none⟩ = some (.int .i64 s0_1) ∧ w'.cell? ⟨g, 2, none⟩ = some (.int .i64 s0_2)) (ds := []) #[Yn, Yn, Yn, Yn, Yn, Yn, Yn, Yn, Yn, Yn, Yn, Yn, Yn, Yn, Yn, Yn, Yn] (by kernel_rfl) rfl rfl ⟨(blk_cell (Aside0.mk HI0.out.1).out 0).trans rfl, (blk_cell (Aside0.mk HI0.out.1).out 1).trans rfl, (blk_cell (Aside0.mk HI0.out.1).out 2).trans rfl⟩ (fun hHeld => ?_); refine with_tabW codec_Reader_Text.tab80004 codec_Reader_Text.bits80004 (fun HT_ HW_ => ?_)
   generalize w.drew = w6 at HI0 HK HB hHeld ⊢
   refine pure_ (i := 0) (N := some 16) (v := ?_) (a' := ?_) #[Y, Yn, Yn, Yn, Yn, Yn, Yn, Yn, Yn, Yn, Yn, Yn, Yn, Yn, Yn, Yn, Yn] rfl rfl (any_of HT_.out (by kernel_rfl)) (fun _ _ _ h => h) (Or.inl ⟨by rfl, ?_⟩) ?_ ?_
   rotate_left
   ·intro w'
    go_simp
    with_reducible rfl
   rotate_left
   ·simp only [Act.put, List.setIfInBounds_toArray, List.set_cons_zero, List.set_cons_succ, i64_w, i32_w]
    rfl
   refine pure_ (i := 1) (N := some 17) (v := ?_) (a' := ?_) #[Y, Y, Yn, Yn, Yn, Yn, Yn, Yn, Yn, Yn, Yn, Yn, Yn, Yn, Yn, Yn, Yn] rfl rfl (any_of HT_.out (by kernel_rfl)) (fun _ _ _ h => h) (Or.inl ⟨by rfl, ?_⟩) ?_ ?_
   rotate_left
   ·intro w'
    go_simp
    with_reducible rfl
   rotate_left
   ·simp only [Act.put, List.setIfInBounds_toArray, List.set_cons_zero, List.set_cons_succ, i64_w, i32_w]
    rfl
   refine pure_ (i := 2) (N := some 18) (v := ?_) (a' := ?_) #[Y, Y, Y, Yn, Yn, Yn, Yn, Yn, Yn, Yn, Yn, Yn, Yn, Yn, Yn, Yn, Yn] rfl rfl (any_of HT_.out (by kernel_rfl)) (fun _ _ _ h => h) (Or.inl ⟨by rfl, ?_⟩) ?_ ?_
   rotate_left
   ·intro w'
    go_simp
    with_reducible rfl
   rotate_left
   ·simp only [Act.put, List.setIfInBounds_toArray, List.set_cons_zero, List.set_cons_succ, i64_w, i32_w]
    rfl
   refine pure_ (i := 3) (N := some 19) (v := ?_) (a' := ?_) #[Y, Y, Y, Y, Yn, Yn, Yn, Yn, Yn, Yn, Yn, Yn, Yn, Yn, Yn, Yn, Yn] rfl rfl (any_of HT_.out (by kernel_rfl)) (fun _ _ _ h => h) (Or.inl ⟨by rfl, ?_⟩) ?_ ?_
   rotate_left
   ·intro w'
    go_simp
    with_reducible rfl
   rotate_left
   ·simp only [Act.put, List.setIfInBounds_toArray, List.set_cons_zero, List.set_cons_succ, i64_w, i32_w]
    rfl
   refine pure_ (i := 5) (N := some 21) (v := ?_) (a' := ?_) #[Y, Y, Y, Y, Yn, Y, Yn, Yn, Yn, Yn, Yn, Yn, Yn, Yn, Yn, Yn, Yn] rfl rfl (any_of HT_.out (by kernel_rfl)) (fun _ _ _ h => h) (Or.inl ⟨by rfl, ?_⟩) ?_ ?_
   rotate_left
   ·intro w'
    go_simp
    with_reducible rfl
   rotate_left
   ·simp only [Act.put, List.setIfInBounds_toArray, List.set_cons_zero, List.set_cons_succ, i64_w, i32_w]
    rfl
   refine pure_ (i := 6) (N := some 22) (v := ?_) (a' := ?_) #[Y, Y, Y, Y, Yn, Y, Y, Yn, Yn, Yn, Yn, Yn, Yn, Yn, Yn, Yn, Yn] rfl rfl (any_of HT_.out (by kernel_rfl)) (fun _ _ _ h => h) (Or.inl ⟨by rfl, ?_⟩) ?_ ?_
   rotate_left
   ·intro w'
    go_simp
    with_reducible rfl
   rotate_left
   ·simp only [Act.put, List.setIfInBounds_toArray, List.set_cons_zero, List.set_cons_succ, i64_w, i32_w]
    rfl
   refine pure_ (i := 7) (N := some 23) (v := ?_) (a' := ?_) #[Y, Y, Y, Y, Yn, Y, Y, Y, Yn, Yn, Yn, Yn, Yn, Yn, Yn, Yn, Yn] rfl rfl (any_of HT_.out (by kernel_rfl)) (fun _ _ _ h => h) (Or.inl ⟨by rfl, ?_⟩) ?_ ?_
   rotate_left
   ·intro w'
    go_simp
    with_reducible rfl
   rotate_left
   ·simp only [Act.put, List.setIfInBounds_toArray, List.set_cons_zero, List.set_cons_succ, i64_w, i32_w]
    rfl
   refine take_ (i := 4) (N := some 20) (v := ?_) (a' := ?_) #[Y, Y, Y, Y, Y, Y, Y, Y, Yn, Yn, Yn, Yn, Yn, Yn, Yn, Yn, Yn] rfl rfl (take_ofW HT_.out HW_.out (by kernel_rfl)) (fun _ _ _ h => h) (Or.inl ⟨by rfl, ?_⟩) hHeld ?_ ?_
   rotate_left
   ·rintro w' ⟨s0, s1, s2⟩
    go_simp
    with_reducible rfl
   rotate_left
   ·simp only [Act.put, List.setIfInBounds_toArray, List.set_cons_zero, List.set_cons_succ, i64_w, i32_w]
    rfl
   refine take_ (i := 8) (N := some 24) (v := ?_) (a' := ?_) #[Y, Y, Y, Y, Y, Y, Y, Y, Y, Yn, Yn, Yn, Yn, Yn, Yn, Yn, Yn] rfl rfl (take_ofW HT_.out HW_.out (by kernel_rfl)) (fun _ _ _ h => h) (Or.inl ⟨by rfl, ?_⟩) hHeld ?_ ?_
   rotate_left
   ·rintro w' ⟨s0, s1, s2⟩
    go_simp
    with_reducible rfl
   rotate_left
   ·simp only [Act.put, List.setIfInBounds_toArray, List.set_cons_zero, List.set_cons_succ, i64_w, i32_w]
    rfl
   refine one_ (i := 9) (N := some 25) #[Y, Y, Y, Y, Y, Y, Y, Y, Y, Y, Yn, Yn, Yn, Yn, Yn, Yn, Yn] rfl rfl (one_of HT_.out (by kernel_rfl)) (by decide) (fun K hK => ?_)
   refine goesT_ Tryd.func81 (by kernel_rfl) rfl #[.string s0_0, .int .i64 s0_1] (by rfl) rfl rfl rfl (by (try simp only [List.map_toArray, List.map_cons, List.map_nil]); first | done | rfl | (simp only [List.length_drop, List.length_take]; rfl)) ?_
   with_reducible refine (codec_text.calls k s0_0 s0_1 t154 t155 true _ ?side99  A3.out).mono ?_
   (case side99 => first | exact HG.out | exact Glob.below HG.out (by repeat (first | (with_reducible first | exact HB.out | apply below_alloc | apply pw_below_drewN | apply below_drew1 | refine below_set ?_ (IsS119.ge HI0.out)) | exact HB.out)))
   rintro e w7 ⟨rfl, hb⟩
   refine ⟨_, rfl, ?_⟩
   have n0_ := Aside0.mk (IsS119.below (by repeat (first | (with_reducible first | exact HI0.out | apply IsS119.alloc | apply IsS119.drewN | apply IsS119.drew | apply IsS119.set_0 | apply IsS119.set_1 | apply IsS119.set_2) | exact HI0.out)) hb)
   have n1_ := Aside0.mk (KeepBut.trans (by repeat (first | (with_reducible first | exact HK.out | apply KeepBut.set_ | apply keep_drewN | apply keep_drew | apply keep_alloc) | exact HK.out)) (KeepBut.of_below hb g none) (.inl rfl))
   have n2_ := Aside0.mk (below_step (by repeat (first | (with_reducible first | exact HB.out | apply below_alloc | apply pw_below_drewN | apply below_drew1 | refine below_set ?_ (IsS119.ge HI0.out)) | exact HB.out)) hb)
   clear HI0
   clear HK
   clear HB
   have HI0 := n0_
   have HK := n1_
   have HB := n2_
   clear n0_ n1_ n2_
   (try clear hb)
   (try clear hb2)
   (try clear hk)
   (try clear hi)
   refine hK.out _ _ ⟨(blk_cell (Aside0.mk HI0.out.1).out 0).trans rfl, (blk_cell (Aside0.mk HI0.out.1).out 1).trans rfl, (blk_cell (Aside0.mk HI0.out.1).out 2).trans rfl⟩ (fun hHeld => ?_)
   clear hK K
   refine norm_ (a' := ?_) ?_ ?_
   rotate_left
   ·show Act.put _ (some 25) _ = _
    simp only [Act.put, List.setIfInBounds_toArray, List.set_cons_zero, List.set_cons_succ, i64_w, i32_w]
    rfl
   refine pure_ (i := 10) (N := some 15) (v := ?_) (a' := ?_) #[Y, Y, Y, Y, Y, Y, Y, Y, Y, Y, Y, Yn, Yn, Yn, Yn, Yn, Yn] rfl rfl (any_of HT_.out (by kernel_rfl)) (fun _ _ _ h => h) (Or.inl ⟨by rfl, ?_⟩) ?_ ?_
   rotate_left
   ·intro w'
    go_simp
    with_reducible rfl
   rotate_left
   ·simp only [Act.put, List.setIfInBounds_toArray, List.set_cons_zero, List.set_cons_succ, i64_w, i32_w]
    rfl
   refine pure_ (i := 11) (N := some 26) (v := ?_) (a' := ?_) #[Y, Y, Y, Y, Y, Y, Y, Y, Y, Y, Y, Y, Yn, Yn, Yn, Yn, Yn] rfl rfl (any_of HT_.out (by kernel_rfl)) (fun _ _ _ h => h) (Or.inl ⟨by rfl, ?_⟩) ?_ ?_
   rotate_left
   ·intro w'
    go_simp
    with_reducible rfl
   rotate_left
   ·simp only [Act.put, List.setIfInBounds_toArray, List.set_cons_zero, List.set_cons_succ, i64_w, i32_w]
    rfl
   refine pure_ (i := 12) (N := some 27) (v := ?_) (a' := ?_) #[Y, Y, Y, Y, Y, Y, Y, Y, Y, Y, Y, Y, Y, Yn, Yn, Yn, Yn] rfl rfl (any_of HT_.out (by kernel_rfl)) (fun _ _ _ h => h) (Or.inl ⟨by rfl, ?_⟩) ?_ ?_
   rotate_left
   ·intro w'
    go_simp
    with_reducible rfl
   rotate_left
   ·simp only [Act.put, List.setIfInBounds_toArray, List.set_cons_zero, List.set_cons_succ, i64_w, i32_w]
    rfl
   refine pure_ (i := 13) (N := some 28) (v := ?_) (a' := ?_) #[Y, Y, Y, Y, Y, Y, Y, Y, Y, Y, Y, Y, Y, Y, Yn, Yn, Yn] rfl rfl (any_of HT_.out (by kernel_rfl)) (fun _ _ _ h => h) (Or.inl ⟨by rfl, ?_⟩) ?_ ?_
   rotate_left
   ·intro w'
    go_simp
    with_reducible rfl
   rotate_left
   ·simp only [Act.put, List.setIfInBounds_toArray, List.set_cons_zero, List.set_cons_succ, i64_w, i32_w]
    rfl
   refine pure_ (i := 14) (N := some 6) (v := ?_) (a' := ?_) #[Y, Y, Y, Y, Y, Y, Y, Y, Y, Y, Y, Y, Y, Y, Y, Yn, Yn] rfl rfl (any_of HT_.out (by kernel_rfl)) (fun _ _ _ h => h) (Or.inl ⟨by rfl, ?_⟩) ?_ ?_
   rotate_left
   ·intro w'
    go_simp
    with_reducible rfl
   rotate_left
   ·simp only [Act.put, List.setIfInBounds_toArray, List.set_cons_zero, List.set_cons_succ, i64_w, i32_w]
    rfl
   refine pure_ (i := 15) (N := some 7) (v := ?_) (a' := ?_) #[Y, Y, Y, Y, Y, Y, Y, Y, Y, Y, Y, Y, Y, Y, Y, Y, Yn] rfl rfl (any_of HT_.out (by kernel_rfl)) (fun _ _ _ h => h) (Or.inl ⟨by rfl, ?_⟩) ?_ ?_
   rotate_left
   ·intro w'
    go_simp
    with_reducible rfl
   rotate_left
   ·simp only [Act.put, List.setIfInBounds_toArray, List.set_cons_zero, List.set_cons_succ, i64_w, i32_w]
    rfl
   refine pure_ (i := 16) (N := some 8) (v := ?_) (a' := ?_) #[Y, Y, Y, Y, Y, Y, Y, Y, Y, Y, Y, Y, Y, Y, Y, Y, Y] rfl rfl (any_of HT_.out (by kernel_rfl)) (fun _ _ _ h => h) (Or.inl ⟨by rfl, ?_⟩) ?_ ?_
   rotate_left
   ·intro w'
    go_simp
    with_reducible rfl
   rotate_left
   ·simp only [Act.put, List.setIfInBounds_toArray, List.set_cons_zero, List.set_cons_succ, i64_w, i32_w]
    rfl
   refine done_ (done_of HT_.out (by kernel_rfl)) ?_
   obtain ⟨HGz8, hgz8⟩ := HI0.out
   have hcz8_0 := cellS119_0 HGz8
   have hcz8_1 := cellS119_1 HGz8
   have hcz8_2 := cellS119_2 HGz8
   have hfz8_0 := blk_frozen HGz8 0
   have hfz8_1 := blk_frozen HGz8 1
   have hfz8_2 := blk_frozen HGz8 2
   clear HGz8 hgz8
   try go_wp2_with (first | (go_at_call 80; go_in) | ((try simp only [Exit.inBlock, Exit.then]); refine bodyPost_end (results_none rfl _ _ _) rfl ?_; simp only []; go_at_K))
   go_ret
   exact ⟨by first | rfl | (simp [errW_none, errW_some] <;> rfl) | (simp [*, errW_none, errW_some] <;> rfl), by repeat (first | (with_reducible first | exact HI0.out | apply IsS119.alloc | apply IsS119.drewN | apply IsS119.drew | apply IsS119.set_0 | apply IsS119.set_1 | apply IsS119.set_2) | exact HI0.out), by repeat (first | (with_reducible first | exact HB.out | apply below_alloc | apply pw_below_drewN | apply below_drew1 | refine below_set ?_ (IsS119.ge HI0.out)) | exact HB.out), by repeat (first | (with_reducible first | exact HK.out | apply KeepBut.set_ | apply keep_drewN | apply keep_drew | apply keep_alloc) | exact HK.out)⟩
  ·replace c4 := Bool.eq_false_iff.mpr c4
   subst c4
   have H1 : (some ((⟨#[]⟩ : ByteArray), s0_0, s0_1, 2)) = some (r1, r2, r3, r4) := by rw [if_neg (show ¬ (false = true) by decide)] at H; exact H
   clear H
   have H := H1
   clear H1
   simp only [Option.some.injEq, Prod.mk.injEq] at H
   obtain ⟨rfl, rfl, rfl, rfl⟩ := H
   obtain ⟨HGz9, hgz9⟩ := HI0.out
   have hcz9_0 := cellS119_0 HGz9
   have hcz9_1 := cellS119_1 HGz9
   have hcz9_2 := cellS119_2 HGz9
   have hfz9_0 := blk_frozen HGz9 0
   have hfz9_1 := blk_frozen HGz9 1
   have hfz9_2 := blk_frozen HGz9 2
   clear HGz9 hgz9
   go_enter Tryd.func50, Tryd.ntmps50
   try go_wp2_with (first | (go_at_call 80; go_in) | ((try simp only [Exit.inBlock, Exit.then]); refine bodyPost_end (results_none rfl _ _ _) rfl ?_; simp only []; go_at_K))
   have n0_ := Aside0.mk (IsS119.drew HI0.out)
   have n1_ := Aside0.mk (keep_drew HK.out)
   have n2_ := Aside0.mk (below_drew1 HB.out)
   clear HI0
   clear HK
   clear HB
   have HI0 := n0_
   have HK := n1_
   have HB := n2_
   clear n0_ n1_ n2_
   refine start_ (n := 17) (S := fun w' => w'.cell? ⟨g, 0, none⟩ = some (.string s0_0) ∧ w'.cell? ⟨g, 1, none⟩ = some (.int .i64 s0_1) ∧ w'.cell? ⟨g, 2, none⟩ = some (.int .i64 s0_2)) (ds := []) #[Yn, Yn, Yn, Yn, Yn, Yn, Yn, Yn, Yn, Yn, Yn, Yn, Yn, Yn, Yn, Yn, Yn] (by kernel_rfl) rfl rfl ⟨(blk_cell (Aside0.mk HI0.out.1).out 0).trans rfl, (blk_cell (Aside0.mk HI0.out.1).out 1).trans rfl, (blk_cell (Aside0.mk HI0.out.1).out 2).trans rfl⟩ (fun hHeld => ?_); refine with_tabW codec_Reader_Text.tab80004 codec_Reader_Text.bits80004 (fun HT_ HW_ => ?_)
   generalize w.drew = w10 at HI0 HK HB hHeld ⊢
   refine pure_ (i := 0) (N := some 16) (v := ?_) (a' := ?_) #[Y, Yn, Yn, Yn, Yn, Yn, Yn, Yn, Yn, Yn, Yn, Yn, Yn, Yn, Yn, Yn, Yn] rfl rfl (any_of HT_.out (by kernel_rfl)) (fun _ _ _ h => h) (Or.inl ⟨by rfl, ?_⟩) ?_ ?_
   rotate_left
   ·intro w'
    go_simp
    with_reducible rfl
   rotate_left
   ·simp only [Act.put, List.setIfInBounds_toArray, List.set_cons_zero, List.set_cons_succ, i64_w, i32_w]
    rfl
   refine pure_ (i := 1) (N := some 17) (v := ?_) (a' := ?_) #[Y, Y, Yn, Yn, Yn, Yn, Yn, Yn, Yn, Yn, Yn, Yn, Yn, Yn, Yn, Yn, Yn] rfl rfl (any_of HT_.out (by kernel_rfl)) (fun _ _ _ h => h) (Or.inl ⟨by rfl, ?_⟩) ?_ ?_
   rotate_left
   ·intro w'
    go_simp
    with_reducible rfl
   rotate_left
   ·simp only [Act.put, List.setIfInBounds_toArray, List.set_cons_zero, List.set_cons_succ, i64_w, i32_w]
    rfl
   refine pure_ (i := 2) (N := some 18) (v := ?_) (a' := ?_) #[Y, Y, Y, Yn, Yn, Yn, Yn, Yn, Yn, Yn, Yn, Yn, Yn, Yn, Yn, Yn, Yn] rfl rfl (any_of HT_.out (by kernel_rfl)) (fun _ _ _ h => h) (Or.inl ⟨by rfl, ?_⟩) ?_ ?_
   rotate_left
   ·intro w'
    go_simp
    with_reducible rfl
   rotate_left
   ·simp only [Act.put, List.setIfInBounds_toArray, List.set_cons_zero, List.set_cons_succ, i64_w, i32_w]
    rfl
   refine pure_ (i := 3) (N := some 19) (v := ?_) (a' := ?_) #[Y, Y, Y, Y, Yn, Yn, Yn, Yn, Yn, Yn, Yn, Yn, Yn, Yn, Yn, Yn, Yn] rfl rfl (any_of HT_.out (by kernel_rfl)) (fun _ _ _ h => h) (Or.inl ⟨by rfl, ?_⟩) ?_ ?_
   rotate_left
   ·intro w'
    go_simp
    with_reducible rfl
   rotate_left
   ·simp only [Act.put, List.setIfInBounds_toArray, List.set_cons_zero, List.set_cons_succ, i64_w, i32_w]
    rfl
   refine pure_ (i := 5) (N := some 21) (v := ?_) (a' := ?_) #[Y, Y, Y, Y, Yn, Y, Yn, Yn, Yn, Yn, Yn, Yn, Yn, Yn, Yn, Yn, Yn] rfl rfl (any_of HT_.out (by kernel_rfl)) (fun _ _ _ h => h) (Or.inl ⟨by rfl, ?_⟩) ?_ ?_
   rotate_left
   ·intro w'
    go_simp
    with_reducible rfl
   rotate_left
   ·simp only [Act.put, List.setIfInBounds_toArray, List.set_cons_zero, List.set_cons_succ, i64_w, i32_w]
    rfl
   refine pure_ (i := 6) (N := some 22) (v := ?_) (a' := ?_) #[Y, Y, Y, Y, Yn, Y, Y, Yn, Yn, Yn, Yn, Yn, Yn, Yn, Yn, Yn, Yn] rfl rfl (any_of HT_.out (by kernel_rfl)) (fun _ _ _ h => h) (Or.inl ⟨by rfl, ?_⟩) ?_ ?_
   rotate_left
   ·intro w'
    go_simp
    with_reducible rfl
   rotate_left
   ·simp only [Act.put, List.setIfInBounds_toArray, List.set_cons_zero, List.set_cons_succ, i64_w, i32_w]
    rfl
   refine pure_ (i := 7) (N := some 23) (v := ?_) (a' := ?_) #[Y, Y, Y, Y, Yn, Y, Y, Y, Yn, Yn, Yn, Yn, Yn, Yn, Yn, Yn, Yn] rfl rfl (any_of HT_.out (by kernel_rfl)) (fun _ _ _ h => h) (Or.inl ⟨by rfl, ?_⟩) ?_ ?_
   rotate_left
   ·intro w'
    go_simp
    with_reducible rfl
   rotate_left
   ·simp only [Act.put, List.setIfInBounds_toArray, List.set_cons_zero, List.set_cons_succ, i64_w, i32_w]
    rfl
   refine take_ (i := 4) (N := some 20) (v := ?_) (a' := ?_) #[Y, Y, Y, Y, Y, Y, Y, Y, Yn, Yn, Yn, Yn, Yn, Yn, Yn, Yn, Yn] rfl rfl (take_ofW HT_.out HW_.out (by kernel_rfl)) (fun _ _ _ h => h) (Or.inl ⟨by rfl, ?_⟩) hHeld ?_ ?_
   rotate_left
   ·rintro w' ⟨s0, s1, s2⟩
    go_simp
    with_reducible rfl
   rotate_left
   ·simp only [Act.put, List.setIfInBounds_toArray, List.set_cons_zero, List.set_cons_succ, i64_w, i32_w]
    rfl
   refine take_ (i := 8) (N := some 24) (v := ?_) (a' := ?_) #[Y, Y, Y, Y, Y, Y, Y, Y, Y, Yn, Yn, Yn, Yn, Yn, Yn, Yn, Yn] rfl rfl (take_ofW HT_.out HW_.out (by kernel_rfl)) (fun _ _ _ h => h) (Or.inl ⟨by rfl, ?_⟩) hHeld ?_ ?_
   rotate_left
   ·rintro w' ⟨s0, s1, s2⟩
    go_simp
    with_reducible rfl
   rotate_left
   ·simp only [Act.put, List.setIfInBounds_toArray, List.set_cons_zero, List.set_cons_succ, i64_w, i32_w]
    rfl
   refine one_ (i := 9) (N := some 25) #[Y, Y, Y, Y, Y, Y, Y, Y, Y, Y, Yn, Yn, Yn, Yn, Yn, Yn, Yn] rfl rfl (one_of HT_.out (by kernel_rfl)) (by decide) (fun K hK => ?_)
   refine goesT_ Tryd.func81 (by kernel_rfl) rfl #[.string s0_0, .int .i64 s0_1] (by rfl) rfl rfl rfl (by (try simp only [List.map_toArray, List.map_cons, List.map_nil]); first | done | rfl | (simp only [List.length_drop, List.length_take]; rfl)) ?_
   with_reducible refine (codec_text.calls k s0_0 s0_1 t154 t155 false _ ?side99  A3.out).mono ?_
   (case side99 => first | exact HG.out | exact Glob.below HG.out (by repeat (first | (with_reducible first | exact HB.out | apply below_alloc | apply pw_below_drewN | apply below_drew1 | refine below_set ?_ (IsS119.ge HI0.out)) | exact HB.out)))
   rintro e w11 ⟨rfl, hb⟩
   refine ⟨_, rfl, ?_⟩
   have n0_ := Aside0.mk (IsS119.below (by repeat (first | (with_reducible first | exact HI0.out | apply IsS119.alloc | apply IsS119.drewN | apply IsS119.drew | apply IsS119.set_0 | apply IsS119.set_1 | apply IsS119.set_2) | exact HI0.out)) hb)
   have n1_ := Aside0.mk (KeepBut.trans (by repeat (first | (with_reducible first | exact HK.out | apply KeepBut.set_ | apply keep_drewN | apply keep_drew | apply keep_alloc) | exact HK.out)) (KeepBut.of_below hb g none) (.inl rfl))
   have n2_ := Aside0.mk (below_step (by repeat (first | (with_reducible first | exact HB.out | apply below_alloc | apply pw_below_drewN | apply below_drew1 | refine below_set ?_ (IsS119.ge HI0.out)) | exact HB.out)) hb)
   clear HI0
   clear HK
   clear HB
   have HI0 := n0_
   have HK := n1_
   have HB := n2_
   clear n0_ n1_ n2_
   (try clear hb)
   (try clear hb2)
   (try clear hk)
   (try clear hi)
   refine hK.out _ _ ⟨(blk_cell (Aside0.mk HI0.out.1).out 0).trans rfl, (blk_cell (Aside0.mk HI0.out.1).out 1).trans rfl, (blk_cell (Aside0.mk HI0.out.1).out 2).trans rfl⟩ (fun hHeld => ?_)
   clear hK K
   refine norm_ (a' := ?_) ?_ ?_
   rotate_left
   ·show Act.put _ (some 25) _ = _
    simp only [Act.put, List.setIfInBounds_toArray, List.set_cons_zero, List.set_cons_succ, i64_w, i32_w]
    rfl
   refine pure_ (i := 10) (N := some 15) (v := ?_) (a' := ?_) #[Y, Y, Y, Y, Y, Y, Y, Y, Y, Y, Y, Yn, Yn, Yn, Yn, Yn, Yn] rfl rfl (any_of HT_.out (by kernel_rfl)) (fun _ _ _ h => h) (Or.inl ⟨by rfl, ?_⟩) ?_ ?_
   rotate_left
   ·intro w'
    go_simp
    with_reducible rfl
   rotate_left
   ·simp only [Act.put, List.setIfInBounds_toArray, List.set_cons_zero, List.set_cons_succ, i64_w, i32_w]
    rfl
   refine pure_ (i := 11) (N := some 26) (v := ?_) (a' := ?_) #[Y, Y, Y, Y, Y, Y, Y, Y, Y, Y, Y, Y, Yn, Yn, Yn, Yn, Yn] rfl rfl (any_of HT_.out (by kernel_rfl)) (fun _ _ _ h => h) (Or.inl ⟨by rfl, ?_⟩) ?_ ?_
   rotate_left
   ·intro w'
    go_simp
    with_reducible rfl
   rotate_left
   ·simp only [Act.put, List.setIfInBounds_toArray, List.set_cons_zero, List.set_cons_succ, i64_w, i32_w]
    rfl
   refine pure_ (i := 12) (N := some 27) (v := ?_) (a' := ?_) #[Y, Y, Y, Y, Y, Y, Y, Y, Y, Y, Y, Y, Y, Yn, Yn, Yn, Yn] rfl rfl (any_of HT_.out (by kernel_rfl)) (fun _ _ _ h => h) (Or.inl ⟨by rfl, ?_⟩) ?_ ?_
   rotate_left
   ·intro w'
    go_simp
    with_reducible rfl
   rotate_left
   ·simp only [Act.put, List.setIfInBounds_toArray, List.set_cons_zero, List.set_cons_succ, i64_w, i32_w]
    rfl
   refine pure_ (i := 13) (N := some 28) (v := ?_) (a' := ?_) #[Y, Y, Y, Y, Y, Y, Y, Y, Y, Y, Y, Y, Y, Y, Yn, Yn, Yn] rfl rfl (any_of HT_.out (by kernel_rfl)) (fun _ _ _ h => h) (Or.inl ⟨by rfl, ?_⟩) ?_ ?_
   rotate_left
   ·intro w'
    go_simp
    with_reducible rfl
   rotate_left
   ·simp only [Act.put, List.setIfInBounds_toArray, List.set_cons_zero, List.set_cons_succ, i64_w, i32_w]
    rfl
   refine pure_ (i := 14) (N := some 6) (v := ?_) (a' := ?_) #[Y, Y, Y, Y, Y, Y, Y, Y, Y, Y, Y, Y, Y, Y, Y, Yn, Yn] rfl rfl (any_of HT_.out (by kernel_rfl)) (fun _ _ _ h => h) (Or.inl ⟨by rfl, ?_⟩) ?_ ?_
   rotate_left
   ·intro w'
    go_simp
    with_reducible rfl
   rotate_left
   ·simp only [Act.put, List.setIfInBounds_toArray, List.set_cons_zero, List.set_cons_succ, i64_w, i32_w]
    rfl
   refine pure_ (i := 15) (N := some 7) (v := ?_) (a' := ?_) #[Y, Y, Y, Y, Y, Y, Y, Y, Y, Y, Y, Y, Y, Y, Y, Y, Yn] rfl rfl (any_of HT_.out (by kernel_rfl)) (fun _ _ _ h => h) (Or.inl ⟨by rfl, ?_⟩) ?_ ?_
   rotate_left
   ·intro w'
    go_simp
    with_reducible rfl
   rotate_left
   ·simp only [Act.put, List.setIfInBounds_toArray, List.set_cons_zero, List.set_cons_succ, i64_w, i32_w]
    rfl
   refine pure_ (i := 16) (N := some 8) (v := ?_) (a' := ?_) #[Y, Y, Y, Y, Y, Y, Y, Y, Y, Y, Y, Y, Y, Y, Y, Y, Y] rfl rfl (any_of HT_.out (by kernel_rfl)) (fun _ _ _ h => h) (Or.inl ⟨by rfl, ?_⟩) ?_ ?_
   rotate_left
   ·intro w'
    go_simp
    with_reducible rfl
   rotate_left
   ·simp only [Act.put, List.setIfInBounds_toArray, List.set_cons_zero, List.set_cons_succ, i64_w, i32_w]
    rfl
   refine done_ (done_of HT_.out (by kernel_rfl)) ?_
   obtain ⟨HGz12, hgz12⟩ := HI0.out
   have hcz12_0 := cellS119_0 HGz12
   have hcz12_1 := cellS119_1 HGz12
   have hcz12_2 := cellS119_2 HGz12
   have hfz12_0 := blk_frozen HGz12 0
   have hfz12_1 := blk_frozen HGz12 1
   have hfz12_2 := blk_frozen HGz12 2
   clear HGz12 hgz12
   try go_wp2_with (first | (go_at_call 80; go_in) | ((try simp only [Exit.inBlock, Exit.then]); refine bodyPost_end (results_none rfl _ _ _) rfl ?_; simp only []; go_at_K))
   go_ret
   exact ⟨by first | rfl | (simp [errW_none, errW_some] <;> rfl) | (simp [*, errW_none, errW_some] <;> rfl), by repeat (first | (with_reducible first | exact HI0.out | apply IsS119.alloc | apply IsS119.drewN | apply IsS119.drew | apply IsS119.set_0 | apply IsS119.set_1 | apply IsS119.set_2) | exact HI0.out), by repeat (first | (with_reducible first | exact HB.out | apply below_alloc | apply pw_below_drewN | apply below_drew1 | refine below_set ?_ (IsS119.ge HI0.out)) | exact HB.out), by repeat (first | (with_reducible first | exact HK.out | apply KeepBut.set_ | apply keep_drewN | apply keep_drew | apply keep_alloc) | exact HK.out)⟩
 ·rw [if_neg c2] at H
  have c2b0 : (s0_2 == 0) = false := beq_eq_false_iff_ne.mpr c2
  have c2b1 : (s0_2 != 0) = true := bne_iff_ne.mpr c2
  simp only [Option.some.injEq, Prod.mk.injEq] at H
  obtain ⟨rfl, rfl, rfl, rfl⟩ := H
  obtain ⟨HGz13, hgz13⟩ := HI0.out
  have hcz13_0 := cellS119_0 HGz13
  have hcz13_1 := cellS119_1 HGz13
  have hcz13_2 := cellS119_2 HGz13
  have hfz13_0 := blk_frozen HGz13 0
  have hfz13_1 := blk_frozen HGz13 1
  have hfz13_2 := blk_frozen HGz13 2
  clear HGz13 hgz13
  go_enter Tryd.func50, Tryd.ntmps50
  go_wp2_with (first | (go_at_call 80; go_in) | ((try simp only [Exit.inBlock, Exit.then]); refine bodyPost_end (results_none rfl _ _ _) rfl ?_; simp only []; go_at_K))
  go_ret
  exact ⟨by first | rfl | (simp [errW_none, errW_some] <;> rfl) | (simp [*, errW_none, errW_some] <;> rfl), by repeat (first | (with_reducible first | exact HI0.out | apply IsS119.alloc | apply IsS119.drewN | apply IsS119.drew | apply IsS119.set_0 | apply IsS119.set_1 | apply IsS119.set_2) | exact HI0.out), by repeat (first | (with_reducible first | exact HB.out | apply below_alloc | apply pw_below_drewN | apply below_drew1 | refine below_set ?_ (IsS119.ge HI0.out)) | exact HB.out), by repeat (first | (with_reducible first | exact HK.out | apply KeepBut.set_ | apply keep_drewN | apply keep_drew | apply keep_alloc) | exact HK.out)⟩
end Go.Proofs.YtbgabhknmpbgiaaDoor.S
end
section
namespace Go.Proofs.YtbgabhknmpbgiaaDoor.S
open Go.RowKit Go.Proofs.YtbgabhknmpbgiaaDoorW.PrintWords Go.Proofs.YtbgabhknmpbgiaaDoorW.PrintLast Go.Proofs.YtbgabhknmpbgiaaDoorW.PrintMore
attribute [local go_sem] max2_int min2_int max_two min_two max_three min_three max_four min_four
set_option linter.unusedVariables false
set_option linter.unusedSimpArgs false
def codec_Reader_End.f (s0_0 : ByteArray) (s0_1 : Int) (s0_2 : Int) : Option (Int × ByteArray × Int × Int) := if s0_2 = 0 then (if s0_1 = (s0_0.size : Int) then (some (s0_2, s0_0, s0_1, s0_2)) else (some (2, s0_0, s0_1, s0_2))) else (some (s0_2, s0_0, s0_1, s0_2))
set_option maxHeartbeats 8000000 in
set_option maxRecDepth 100000 in
theorem codec_Reader_End.calls (g : Nat) (s0_0 : ByteArray) (s0_1 : Int) (s0_2 : Int) (r1 : Int) (r2 : ByteArray) (r3 : Int) (r4 : Int) (w0 w : World) (hG : Glob w0) (hI : IsS119 w0 w g s0_0 s0_1 s0_2) (hB : Below w0.heap.size w0 w) (h : codec_Reader_End.f s0_0 s0_1 s0_2 = some (r1, r2, r3, r4)) :
  Calls Tryd.prog 51 #[.pointer (some ⟨g, 0, none⟩)] w fun e w' => e = .returned (.int .i64 r1) ∧ IsS119 w0 w' g r2 r3 r4 ∧ Below w0.heap.size w0 w' ∧ KeepBut w w' g none := by
 have HG := Aside0.mk hG
 clear hG
 have HI0 := Aside0.mk hI
 have HK := Aside0.mk (KeepBut.refl w g none)
 have HL := Aside0.mk hB.size
 clear hI
 have HW0 := Aside0.mk hB.size
 have HB := Aside0.mk hB
 clear hB
 have H : (if s0_2 = 0 then (if s0_1 = (s0_0.size : Int) then (some (s0_2, s0_0, s0_1, s0_2)) else (some (2, s0_0, s0_1, s0_2))) else (some (s0_2, s0_0, s0_1, s0_2))) = some (r1, r2, r3, r4) := h
 clear h
 by_cases c2 : s0_2 = 0
 ·rw [if_pos c2] at H
  have c2b0 : (s0_2 == 0) = true := beq_iff_eq.mpr c2
  have c2b1 : (s0_2 != 0) = false := bne_eq_false_iff_eq.mpr c2
  clear c2
  by_cases c3 : s0_1 = (s0_0.size : Int)
  ·rw [if_pos c3] at H
   have c3b0 : (s0_1 == (s0_0.size : Int)) = true := beq_iff_eq.mpr c3
   have c3b1 : (s0_1 != (s0_0.size : Int)) = false := bne_eq_false_iff_eq.mpr c3
   clear c3
   simp only [Option.some.injEq, Prod.mk.injEq] at H
   obtain ⟨rfl, rfl, rfl, rfl⟩ := H
   obtain ⟨HGz4, hgz4⟩ := HI0.out
   have hcz4_0 := cellS119_0 HGz4
   have hcz4_1 := cellS119_1 HGz4
   have hcz4_2 := cellS119_2 HGz4
   have hfz4_0 := blk_frozen HGz4 0
   have hfz4_1 := blk_frozen HGz4 1
   have hfz4_2 := blk_frozen HGz4 2
   clear HGz4 hgz4
   go_enter Tryd.func51, Tryd.ntmps51
   go_wp2
   repeat (go_quiet (fail); try go_wp2)
   go_ret
   exact ⟨by first | rfl | (simp [errW_none, errW_some] <;> rfl) | (simp [*, errW_none, errW_some] <;> rfl), by repeat (first | (with_reducible first | exact HI0.out | apply IsS119.alloc | apply IsS119.drewN | apply IsS119.drew | apply IsS119.set_0 | apply IsS119.set_1 | apply IsS119.set_2) | exact HI0.out), by repeat (first | (with_reducible first | exact HB.out | apply below_alloc | apply pw_below_drewN | apply below_drew1 | refine below_set ?_ (IsS119.ge HI0.out)) | exact HB.out), by repeat (first | (with_reducible first | exact HK.out | apply KeepBut.set_ | apply keep_drewN | apply keep_drew | apply keep_alloc) | exact HK.out)⟩
  ·rw [if_neg c3] at H
   have c3b0 : (s0_1 == (s0_0.size : Int)) = false := beq_eq_false_iff_ne.mpr c3
   have c3b1 : (s0_1 != (s0_0.size : Int)) = true := bne_iff_ne.mpr c3
   simp only [Option.some.injEq, Prod.mk.injEq] at H
   obtain ⟨rfl, rfl, rfl, rfl⟩ := H
   obtain ⟨HGz5, hgz5⟩ := HI0.out
   have hcz5_0 := cellS119_0 HGz5
   have hcz5_1 := cellS119_1 HGz5
   have hcz5_2 := cellS119_2 HGz5
   have hfz5_0 := blk_frozen HGz5 0
   have hfz5_1 := blk_frozen HGz5 1
   have hfz5_2 := blk_frozen HGz5 2
   clear HGz5 hgz5
   go_enter Tryd.func51, Tryd.ntmps51
   go_wp2
   repeat (go_quiet (fail); try go_wp2)
   go_ret
   exact ⟨by first | rfl | (simp [errW_none, errW_some] <;> rfl) | (simp [*, errW_none, errW_some] <;> rfl), by repeat (first | (with_reducible first | exact HI0.out | apply IsS119.alloc | apply IsS119.drewN | apply IsS119.drew | apply IsS119.set_0 | apply IsS119.set_1 | apply IsS119.set_2) | exact HI0.out), by repeat (first | (with_reducible first | exact HB.out | apply below_alloc | apply pw_below_drewN | apply below_drew1 | refine below_set ?_ (IsS119.ge HI0.out)) | exact HB.out), by repeat (first | (with_reducible first | exact HK.out | apply KeepBut.set_ | apply keep_drewN | apply keep_drew | apply keep_alloc) | exact HK.out)⟩
 ·rw [if_neg c2] at H
  have c2b0 : (s0_2 == 0) = false := beq_eq_false_iff_ne.mpr c2
  have c2b1 : (s0_2 != 0) = true := bne_iff_ne.mpr c2
  simp only [Option.some.injEq, Prod.mk.injEq] at H
  obtain ⟨rfl, rfl, rfl, rfl⟩ := H
  obtain ⟨HGz6, hgz6⟩ := HI0.out
  have hcz6_0 := cellS119_0 HGz6
  have hcz6_1 := cellS119_1 HGz6
  have hcz6_2 := cellS119_2 HGz6
  have hfz6_0 := blk_frozen HGz6 0
  have hfz6_1 := blk_frozen HGz6 1
  have hfz6_2 := blk_frozen HGz6 2
  clear HGz6 hgz6
  go_enter Tryd.func51, Tryd.ntmps51
  go_wp2
  repeat (go_quiet (fail); try go_wp2)
  go_ret
  exact ⟨by first | rfl | (simp [errW_none, errW_some] <;> rfl) | (simp [*, errW_none, errW_some] <;> rfl), by repeat (first | (with_reducible first | exact HI0.out | apply IsS119.alloc | apply IsS119.drewN | apply IsS119.drew | apply IsS119.set_0 | apply IsS119.set_1 | apply IsS119.set_2) | exact HI0.out), by repeat (first | (with_reducible first | exact HB.out | apply below_alloc | apply pw_below_drewN | apply below_drew1 | refine below_set ?_ (IsS119.ge HI0.out)) | exact HB.out), by repeat (first | (with_reducible first | exact HK.out | apply KeepBut.set_ | apply keep_drewN | apply keep_drew | apply keep_alloc) | exact HK.out)⟩
end Go.Proofs.YtbgabhknmpbgiaaDoor.S
end
section
namespace Go.Proofs.YtbgabhknmpbgiaaDoor.Pure
open Go.RowKit Go.Proofs.YtbgabhknmpbgiaaDoor.S Go.Proofs.YtbgabhknmpbgiaaDoorW.PrintWords Go.Proofs.YtbgabhknmpbgiaaDoorW.PrintLast Go.Proofs.YtbgabhknmpbgiaaDoorW.PrintMore
set_option linter.unusedVariables false
theorem rd_bool (k : Nat) (s : ByteArray) (p : Int) (h0 : 0 ≤ p) (h1 : p ≤ 140737488355327) : codec_Reader_Bool.f (k + 3) s p 0 = some (if kindS s p = 2 then (bt s p == 2, s, p + 1, 0) else (false, s, p, 2)) := by
 unfold codec_Reader_Bool.f codec_Reader_Bool_1.f
 rw [if_pos rfl, kind_eq, Option.bind_some, w64 (by omega) (by omega)]
 by_cases c : kindS s p = 2
 ·obtain ⟨a, b, _⟩ := kindS_in (s := s) (p := p) (by omega)
  rw [if_pos c, if_pos c, if_pos a, if_pos b, Option.bind_some, if_pos rfl]
 ·rw [if_neg c, if_neg c, Option.bind_some, if_neg Bool.false_ne_true]
theorem rd_end (s : ByteArray) (p : Int) (h1 : p ≤ (s.size : Int)) : codec_Reader_End.f s p 0 = some (if p < (s.size : Int) then 2 else 0, s, p, 0) := by
 unfold codec_Reader_End.f
 rw [if_pos rfl]
 by_cases c : p < (s.size : Int)
 ·rw [if_pos c, if_neg (by omega)]
 ·rw [if_neg c, if_pos (by omega)]
theorem rd_end2 (s : ByteArray) (p : Int) : codec_Reader_End.f s p 2 = some (2, s, p, 2) := rfl
def rdU (s : ByteArray) (p : Int) : Int × ByteArray × Int × Int := match uS s p with | some (v, e) => (v, s, e, 0) | none => (0, s, p, 2)
def rdS (s : ByteArray) (p : Int) : Int × ByteArray × Int × Int := match sS s p with | some (v, e) => (v, s, e, 0) | none => (0, s, p, 2)
def rdT (s : ByteArray) (p : Int) : ByteArray × ByteArray × Int × Int := match tS s p with | some (v, e) => (v, s, e, 0) | none => ((⟨#[]⟩ : ByteArray), s, p, 2)
def rdL (s : ByteArray) (p : Int) : Int × ByteArray × Int × Int := match lS s p with | some (v, e) => (v, s, e, 0) | none => (0, s, p, 2)
theorem rd_unsigned (k : Nat) (s : ByteArray) (p : Int) (hz : s.size ≤ 140737488355327) : codec_Reader_Unsigned.f (k + 12) s p 0 = some (rdU s p) := by
 unfold codec_Reader_Unsigned.f codec_Reader_Unsigned_1.f rdU
 rw [if_pos rfl, raw_eq k s p 3 (Or.inl rfl) hz, Option.bind_some, Option.bind_some]
 cases e : uS s p with
 | some x =>
  obtain ⟨v, q⟩ := x
  rw [(rawS3 s p).1 v q e, if_pos rfl]
 | none => rw [if_neg (by rw [(rawS3 s p).2 e]; exact Bool.false_ne_true)]
theorem rd_signed (k : Nat) (s : ByteArray) (p : Int) (hz : s.size ≤ 140737488355327) : codec_Reader_Signed.f (k + 12) s p 0 = some (rdS s p) := by
 unfold codec_Reader_Signed.f codec_Reader_Signed_1.f rdS
 rw [if_pos rfl, raw_eq k s p 4 (Or.inr rfl) hz, Option.bind_some, Option.bind_some]
 cases e : sS s p with
 | some x =>
  obtain ⟨v, q⟩ := x
  have hr := sS_some e
  rw [(rawS4 s p).1 v q e, if_pos rfl]
  have : wrap64 (IntKind.u64.wrap v) = v := by rw [u64w]; unfold wrap64; omega
  rw [this]
 | none => rw [if_neg (by rw [(rawS4 s p).2 e]; exact Bool.false_ne_true)]
theorem rd_text (k : Nat) (s : ByteArray) (p : Int) (hz : s.size ≤ 140737488355327) : codec_Reader_Text.f (k + 12) s p 0 = some (rdT s p) := by
 unfold codec_Reader_Text.f rdT
 rw [if_pos rfl, text_eq k s p hz, Option.bind_some]
 cases e : tS s p with
 | some x => obtain ⟨v, q⟩ := x; rw [optT_some, if_pos rfl]
 | none => rw [optT_none, if_neg Bool.false_ne_true]
theorem rd_list (k : Nat) (s : ByteArray) (p : Int) (hz : s.size ≤ 140737488355327) : codec_Reader_List.f (k + 12) s p 0 = some (rdL s p) := by
 unfold codec_Reader_List.f rdL
 rw [if_pos rfl, list_eq k s p hz, Option.bind_some]
 cases e : lS s p with
 | some x => obtain ⟨v, q⟩ := x; rw [opt3_some, if_pos rfl]
 | none => rw [opt3_none, if_neg Bool.false_ne_true]
end Go.Proofs.YtbgabhknmpbgiaaDoor.Pure
end
section
namespace Go.Proofs.YtbgabhknmpbgiaaDoor.S
open Go.RowKit Go.Proofs.YtbgabhknmpbgiaaDoorW.PrintWords Go.Proofs.YtbgabhknmpbgiaaDoorW.PrintLast Go.Proofs.YtbgabhknmpbgiaaDoorW.PrintMore
set_option linter.unusedVariables false
set_option linter.unusedSimpArgs false
def WrAt (B g : Nat) (l : List Int) (w : World) : Prop := ∃ v, w.heap[g]? = some (.cells #[v] 82 (0, 0)) ∧ B ≤ g ∧ Kd.R (Kd.int .u8) 5 w B (fun _ => True) v l
structure KeepT (w w' : World) : Prop where
 size : w.heap.size ≤ w'.heap.size
 keep : ∀ (k : Nat) cs t, w.heap[k]? = some (.cells cs t (0, 0)) → t ≠ 5 → t ≠ 82 → w'.heap[k]? = some (.cells cs t (0, 0))
theorem KeepT.trans {w w1 w2 : World} (h : KeepT w w1) (k : KeepT w1 w2) : KeepT w w2 := ⟨Nat.le_trans h.size k.size, fun j cs t hj h1 h2 => k.keep j cs t (h.keep j cs t hj h1 h2) h1 h2⟩
structure WrStep (B g : Nat) (l' : List Int) (w w1 : World) (v v1 : Value) : Prop where
 at_ : WrAt B g l' (w1.setCell ⟨g, 0, none⟩ v1)
 bel : Below B w (w1.setCell ⟨g, 0, none⟩ v1)
 keep : KeepT w (w1.setCell ⟨g, 0, none⟩ v1)
 cell : w1.cell? ⟨g, 0, none⟩ = some v
 free : w1.frozen? ⟨g, 0, none⟩ = false
theorem wr_step {B g : Nat} {l l' : List Int} {w W1 w1 : World} {v v1 : Value} (hv : w.heap[g]? = some (.cells #[v] 82 (0, 0))) (hg : B ≤ g) (ho : Kd.R (Kd.int .u8) 5 w B (fun _ => True) v l)
  (hb1 : Below w.heap.size w W1) (ho1 : Kd.R (Kd.int .u8) 5 w1 B (fun _ => True) v1 l') (hbel : Below B w w1) (hgr : W1.grownBy w1 v.ownBlock) : WrStep B g l' w w1 v v1 := by
 have hne : ∀ (k : Nat) cs t, w.heap[k]? = some (.cells cs t (0, 0)) → t ≠ 5 → some k ≠ v.ownBlock := fun k cs t hk ht => Kd.R_ne ho hk (Ne.symm ht)
 have h1 : w1.heap[g]? = some (.cells #[v] 82 (0, 0)) := blk_grown (blk_below hv hb1) hgr (hne g _ _ hv (by decide))
 have hsz : w.heap.size ≤ w1.heap.size := Nat.le_trans hb1.size hgr.size
 refine ⟨⟨v1, blk_put h1 0 v1 rfl, hg, ?_⟩, hbel.setCell hg _, ⟨by simpa [World.setCell] using hsz, fun k cs t hk t1 t2 => ?_⟩, (blk_cell h1 0).trans rfl, blk_frozen h1 0⟩
 ·have ha := Kd.R_types ho1 h1 (fun q hq => by
   rcases List.mem_cons.1 hq with rfl | hq
   ·decide
   ·cases hq)
  exact Kd.R_mono (Kd.R_far ha (p := ⟨g, 0, none⟩) (fun _ h => h.2) v1) (fun _ _ => trivial)
 ·exact blk_far (blk_grown (blk_below hk hb1) hgr (hne k _ _ hk t1)) (by rintro rfl; rw [hv] at hk; injection hk with hk; injection hk with _ hk _; exact t2 hk.symm) _
def WrPost (B g : Nat) (l' : List Int) (w : World) (r : Value) (e : Ending) (w' : World) : Prop := e = .returned r ∧ WrAt B g l' w' ∧ Below B w w' ∧ KeepT w w'
def wrMax : Nat := 1000000000000
set_option maxHeartbeats 8000000 in
set_option maxRecDepth 100000 in
theorem wr_bool_true (B g : Nat) (l : List Int) (w : World) (hB : B ≤ w.heap.size) (h : WrAt B g l w) (hl : l.length ≤ wrMax) :
  Calls Tryd.prog 42 #[.pointer (some ⟨g, 0, none⟩), .bool true] w fun e w' => WrPost B g (l ++ [2]) w (.tuple #[]) e w' := by
 obtain ⟨v, hv, hg, ho⟩ := h
 unfold wrMax at hl
 have HV := Aside0.mk hv
 have HO := Aside0.mk ho
 have HG := Aside0.mk hg
 have HS := Aside0.mk hB
 have hc := (blk_cell hv 0).trans rfl
 clear hv ho hg hB
 obtain ⟨ls, LS⟩ : ∃ ls, Aside0 (l ++ [2] = ls) := ⟨_, ⟨rfl⟩⟩
 rw [LS.out]
 go_enter Tryd.func42, Tryd.ntmps42
 go_wp2_with (at_builtin; refine Kd.R_append (Kd.int .u8) (w0 := w) B rfl (.tmp 9) (.tmp 10) 80 5 (.int .u8 0) 1 rfl Tryd.underlying80 info5 rfl (by decide) (by omega) v l 2 [.int .u8 2] (fun _ => True) (fun _ => False) rfl rfl rfl (fun _ hk => hk.elim) (fun _ _ => trivial) HO.out (Below.refl _ _) HS.out (by omega) ?_; intro v1 w9 ho hb hg hat; rw [LS.out] at ho; obtain ⟨A1, c1, e1⟩ := Kd.R_slice ho; subst e1; have HW := Aside0.mk (wr_step HV.out HG.out HO.out (Below.refl _ _) ho hb hg); have hcc := HW.out.cell; have hff := HW.out.free; clear ho hb hg hat hc)
 refine bodyPost_end (results_none rfl _ _ _) rfl ?_
 exact ⟨rfl, HW.out.at_, HW.out.bel, HW.out.keep⟩
set_option maxHeartbeats 8000000 in
set_option maxRecDepth 100000 in
theorem wr_bool_false (B g : Nat) (l : List Int) (w : World) (hB : B ≤ w.heap.size) (h : WrAt B g l w) (hl : l.length ≤ wrMax) :
  Calls Tryd.prog 42 #[.pointer (some ⟨g, 0, none⟩), .bool false] w fun e w' => WrPost B g (l ++ [1]) w (.tuple #[]) e w' := by
 obtain ⟨v, hv, hg, ho⟩ := h
 unfold wrMax at hl
 have HV := Aside0.mk hv
 have HO := Aside0.mk ho
 have HG := Aside0.mk hg
 have HS := Aside0.mk hB
 have hc := (blk_cell hv 0).trans rfl
 clear hv ho hg hB
 obtain ⟨ls, LS⟩ : ∃ ls, Aside0 (l ++ [1] = ls) := ⟨_, ⟨rfl⟩⟩
 rw [LS.out]
 go_enter Tryd.func42, Tryd.ntmps42
 go_wp2_with (at_builtin; refine Kd.R_append (Kd.int .u8) (w0 := w) B rfl (.tmp 18) (.tmp 19) 80 5 (.int .u8 0) 1 rfl Tryd.underlying80 info5 rfl (by decide) (by omega) v l 1 [.int .u8 1] (fun _ => True) (fun _ => False) rfl rfl rfl (fun _ hk => hk.elim) (fun _ _ => trivial) HO.out (Below.refl _ _) HS.out (by omega) ?_; intro v1 w9 ho hb hg hat; rw [LS.out] at ho; obtain ⟨A1, c1, e1⟩ := Kd.R_slice ho; subst e1; have HW := Aside0.mk (wr_step HV.out HG.out HO.out (Below.refl _ _) ho hb hg); have hcc := HW.out.cell; have hff := HW.out.free; clear ho hb hg hat hc)
 refine bodyPost_end (results_none rfl _ _ _) rfl ?_
 exact ⟨rfl, HW.out.at_, HW.out.bel, HW.out.keep⟩
theorem wr_bool (B g : Nat) (l : List Int) (b : Bool) (w : World) (hB : B ≤ w.heap.size) (h : WrAt B g l w) (hl : l.length ≤ wrMax) :
  Calls Tryd.prog 42 #[.pointer (some ⟨g, 0, none⟩), .bool b] w fun e w' => WrPost B g (l ++ [if b = true then 2 else 1]) w (.tuple #[]) e w' := by
 cases b
 ·exact wr_bool_false B g l w hB h hl
 ·exact wr_bool_true B g l w hB h hl
set_option maxHeartbeats 8000000 in
set_option maxRecDepth 100000 in
theorem wr_unsigned (k k2 : Nat) (B g : Nat) (l : List Int) (n wd : Int) (bs : List Int) (w : World) (hG : Aside0 (Glob w)) (hB : B ≤ w.heap.size) (h : WrAt B g l w) (hl : l.length + bs.length ≤ wrMax) (hw : Aside0 (codec_width.f k n = some wd)) (hn : Aside0 (codec_number.f k2 16 n wd = some bs)) :
  Calls Tryd.prog 40 #[.pointer (some ⟨g, 0, none⟩), .int .u64 n] w fun e w' => WrPost B g (l ++ bs) w (.tuple #[]) e w' := by
 obtain ⟨v, hv, hg, ho⟩ := h
 unfold wrMax at hl
 have HV := Aside0.mk hv
 have HO := Aside0.mk ho
 have HG := Aside0.mk hg
 have HS := Aside0.mk hB
 have hc := (blk_cell hv 0).trans rfl
 clear hv ho hg hB
 obtain ⟨ls, LS⟩ : ∃ ls, Aside0 (l ++ bs = ls) := ⟨_, ⟨rfl⟩⟩
 rw [LS.out]
 go_enter Tryd.func40, Tryd.ntmps40
 try go_wp2
 refine start_ (n := 13) (S := fun w' => w'.cell? ⟨g, 0, none⟩ = some v) (ds := [12]) #[Yn, Yn, Yn, Yn, Yn, Yn, Yn, Yn, Yn, Yn, Yn, Yn, Yn] (by kernel_rfl) rfl rfl (hc) (fun hHeld => ?_)
 refine pure_ (i := 0) (N := some 4) (v := ?_) (a' := ?_) #[Y, Yn, Yn, Yn, Yn, Yn, Yn, Yn, Yn, Yn, Yn, Yn, Yn] rfl rfl (by kernel_rfl) (fun _ _ _ h => h) (Or.inl ⟨by rfl, ?_⟩) ?_ ?_
 rotate_left
 ·intro w'
  go_simp
  with_reducible rfl
 rotate_left
 ·simp only [Act.put, List.setIfInBounds_toArray, List.set_cons_zero, List.set_cons_succ, i64_w, i32_w]
  rfl
 refine pure_ (i := 1) (N := some 5) (v := ?_) (a' := ?_) #[Y, Y, Yn, Yn, Yn, Yn, Yn, Yn, Yn, Yn, Yn, Yn, Yn] rfl rfl (by kernel_rfl) (fun _ _ _ h => h) (Or.inl ⟨by rfl, ?_⟩) ?_ ?_
 rotate_left
 ·intro w'
  go_simp
  with_reducible rfl
 rotate_left
 ·simp only [Act.put, List.setIfInBounds_toArray, List.set_cons_zero, List.set_cons_succ, i64_w, i32_w]
  rfl
 refine pure_ (i := 2) (N := some 6) (v := ?_) (a' := ?_) #[Y, Y, Y, Yn, Yn, Yn, Yn, Yn, Yn, Yn, Yn, Yn, Yn] rfl rfl (by kernel_rfl) (fun _ _ _ h => h) (Or.inl ⟨by rfl, ?_⟩) ?_ ?_
 rotate_left
 ·intro w'
  go_simp
  with_reducible rfl
 rotate_left
 ·simp only [Act.put, List.setIfInBounds_toArray, List.set_cons_zero, List.set_cons_succ, i64_w, i32_w]
  rfl
 refine pure_ (i := 3) (N := some 7) (v := ?_) (a' := ?_) #[Y, Y, Y, Y, Yn, Yn, Yn, Yn, Yn, Yn, Yn, Yn, Yn] rfl rfl (by kernel_rfl) (fun _ _ _ h => h) (Or.inl ⟨by rfl, ?_⟩) ?_ ?_
 rotate_left
 ·intro w'
  go_simp
  with_reducible rfl
 rotate_left
 ·simp only [Act.put, List.setIfInBounds_toArray, List.set_cons_zero, List.set_cons_succ, i64_w, i32_w]
  rfl
 refine pure_ (i := 5) (N := some 9) (v := ?_) (a' := ?_) #[Y, Y, Y, Y, Yn, Y, Yn, Yn, Yn, Yn, Yn, Yn, Yn] rfl rfl (by kernel_rfl) (fun _ _ _ h => h) (Or.inl ⟨by rfl, ?_⟩) ?_ ?_
 rotate_left
 ·intro w'
  go_simp
  with_reducible rfl
 rotate_left
 ·simp only [Act.put, List.setIfInBounds_toArray, List.set_cons_zero, List.set_cons_succ, i64_w, i32_w]
  rfl
 refine pure_ (i := 6) (N := some 10) (v := ?_) (a' := ?_) #[Y, Y, Y, Y, Yn, Y, Y, Yn, Yn, Yn, Yn, Yn, Yn] rfl rfl (by kernel_rfl) (fun _ _ _ h => h) (Or.inl ⟨by rfl, ?_⟩) ?_ ?_
 rotate_left
 ·intro w'
  go_simp
  with_reducible rfl
 rotate_left
 ·simp only [Act.put, List.setIfInBounds_toArray, List.set_cons_zero, List.set_cons_succ, i64_w, i32_w]
  rfl
 refine take_ (i := 4) (N := some 8) (v := ?_) (a' := ?_) #[Y, Y, Y, Y, Y, Y, Y, Yn, Yn, Yn, Yn, Yn, Yn] rfl rfl (by kernel_rfl) (fun _ _ _ h => h) (Or.inl ⟨by rfl, ?_⟩) hHeld ?_ ?_
 rotate_left
 ·intro w' s0
  go_simp
  with_reducible rfl
 rotate_left
 ·simp only [Act.put, List.setIfInBounds_toArray, List.set_cons_zero, List.set_cons_succ, i64_w, i32_w]
  rfl
 refine one_ (i := 7) (N := some 11) #[Y, Y, Y, Y, Y, Y, Y, Y, Yn, Yn, Yn, Yn, Yn] rfl rfl (by kernel_rfl) (by decide) (fun K hK => ?_)
 refine goes_ Tryd.func69 (by kernel_rfl) rfl #[.int .u64 n] (by rfl) rfl rfl (by simp only [List.map_toArray, List.map_cons, List.map_nil]; rfl) ?_
 with_reducible refine (codec_width.calls k n wd _ (Glob.below hG.out (below_drew1 (Below.refl _ _))) hw.out).mono ?_
 rintro e w7 ⟨rfl, hb7⟩
 refine ⟨_, rfl, ?_⟩
 have HB7 := Aside0.mk (below_step (below_drew1 (Below.refl w.heap.size w)) hb7)
 have hk := Aside0.mk hb7
 clear hb7
 refine hK.out _ _ (pw_cell_below hk.out hHeld) (fun hHeld => ?_)
 clear hK K
 refine norm_ (a' := ?_) ?_ ?_
 rotate_left
 ·show Act.put _ (some 11) _ = _
  simp only [Act.put, List.setIfInBounds_toArray, List.set_cons_zero, List.set_cons_succ, i64_w, i32_w]
  rfl
 refine one_ (i := 8) (N := some 12) #[Y, Y, Y, Y, Y, Y, Y, Y, Y, Yn, Yn, Yn, Yn] rfl rfl (by kernel_rfl) (by decide) (fun K hK => ?_)
 refine goes_ Tryd.func68 (by kernel_rfl) rfl #[.int .u8 16, .int .u64 n, .int .i64 wd] (by rfl) rfl rfl (by simp only [List.map_toArray, List.map_cons, List.map_nil]; rfl) ?_
 with_reducible refine (codec_number.calls k2 16 n wd bs _ (Glob.below hG.out HB7.out) hn.out).mono ?_
 rintro e w8 ⟨v2, rfl, hv2, hb8⟩
 refine ⟨_, rfl, ?_⟩
 have HB8 := Aside0.mk (below_step HB7.out hb8)
 obtain ⟨A2, c2, e2⟩ := Kd.R_slice hv2
 subst e2
 have HR2 := Aside0.mk hv2
 have hk := Aside0.mk hb8
 clear hb8 hv2 HB7
 refine hK.out _ _ (pw_cell_below hk.out hHeld) (fun hHeld => ?_)
 clear hK K
 refine norm_ (a' := ?_) ?_ ?_
 rotate_left
 ·show Act.put _ (some 12) _ = _
  simp only [Act.put, List.setIfInBounds_toArray, List.set_cons_zero, List.set_cons_succ, i64_w, i32_w]
  rfl
 refine one_ (i := 9) (N := some 13) #[Y, Y, Y, Y, Y, Y, Y, Y, Y, Y, Yn, Yn, Yn] rfl rfl (by kernel_rfl) (by decide) (fun K hK => ?_)
 refine Kd.R_append_rows_step (Kd.int .u8) (w0 := w) B (by rfl) (.tmp 8) (.tmp 12) 80 5 (.int .u8 0) 1 rfl Tryd.underlying80 info5 rfl (by decide) (by omega) v l bs _ _ _ (fun _ => True) (fun _ => False) rfl rfl (Kd.R_below HO.out HB8.out) (Kd.R_reads' HR2.out).2.2 (fun _ _ h => h) (fun _ h => h.elim) (fun _ _ => trivial) (HB8.out.mono HS.out) (Nat.le_trans HS.out HB8.out.size) (by omega) ?_
 intro v1 w9 ho hb hg hat
 rw [LS.out] at ho
 obtain ⟨A1, c1, e1⟩ := Kd.R_slice ho
 subst e1
 have HW := Aside0.mk (wr_step HV.out HG.out HO.out HB8.out ho hb hg)
 have hcc := HW.out.cell
 have hff := HW.out.free
 clear ho hb hg hat
 refine hK.out _ _ (hcc) (fun hHeld => ?_)
 clear hK K
 refine norm_ (a' := ?_) ?_ ?_
 rotate_left
 ·show Act.put _ (some 13) _ = _
  simp only [Act.put, List.setIfInBounds_toArray, List.set_cons_zero, List.set_cons_succ, i64_w, i32_w]
  rfl
 refine pure_ (i := 10) (N := some 14) (v := ?_) (a' := ?_) #[Y, Y, Y, Y, Y, Y, Y, Y, Y, Y, Y, Yn, Yn] rfl rfl (by kernel_rfl) (fun _ _ _ h => h) (Or.inl ⟨by rfl, ?_⟩) ?_ ?_
 rotate_left
 ·intro w'
  go_simp
  with_reducible rfl
 rotate_left
 ·simp only [Act.put, List.setIfInBounds_toArray, List.set_cons_zero, List.set_cons_succ, i64_w, i32_w]
  rfl
 refine pure_ (i := 11) (N := some 15) (v := ?_) (a' := ?_) #[Y, Y, Y, Y, Y, Y, Y, Y, Y, Y, Y, Y, Yn] rfl rfl (by kernel_rfl) (fun _ _ _ h => h) (Or.inl ⟨by rfl, ?_⟩) ?_ ?_
 rotate_left
 ·intro w'
  go_simp
  with_reducible rfl
 rotate_left
 ·simp only [Act.put, List.setIfInBounds_toArray, List.set_cons_zero, List.set_cons_succ, i64_w, i32_w]
  rfl
 refine last_ (i := 12) (N := none) #[Y, Y, Y, Y, Y, Y, Y, Y, Y, Y, Y, Y, Y] rfl rfl (by kernel_rfl) (by decide) (fun K hK => ?_)
 refine skip_ (w1 := ?_) (by rfl) rfl ?_ ?_
 rotate_left
 ·go_simp
  rfl
 refine hK.out _ _ ?_
 clear hK K
 refine done_ (by kernel_rfl) ?_
 try go_wp2
 refine bodyPost_end (results_none rfl _ _ _) rfl ?_
 exact ⟨rfl, HW.out.at_, HW.out.bel, HW.out.keep⟩
set_option maxHeartbeats 8000000 in
set_option maxRecDepth 100000 in
theorem wr_signed (k k2 : Nat) (B g : Nat) (l : List Int) (n wd : Int) (bs : List Int) (w : World) (hG : Aside0 (Glob w)) (hB : B ≤ w.heap.size) (h : WrAt B g l w) (hl : l.length + bs.length ≤ wrMax) (hw : Aside0 (codec_spread.f k n = some wd)) (hn : Aside0 (codec_number.f k2 32 (IntKind.u64.wrap n) wd = some bs)) :
  Calls Tryd.prog 41 #[.pointer (some ⟨g, 0, none⟩), .int .i64 n] w fun e w' => WrPost B g (l ++ bs) w (.tuple #[]) e w' := by
 obtain ⟨v, hv, hg, ho⟩ := h
 unfold wrMax at hl
 have HV := Aside0.mk hv
 have HO := Aside0.mk ho
 have HG := Aside0.mk hg
 have HS := Aside0.mk hB
 have hc := (blk_cell hv 0).trans rfl
 clear hv ho hg hB
 obtain ⟨ls, LS⟩ : ∃ ls, Aside0 (l ++ bs = ls) := ⟨_, ⟨rfl⟩⟩
 rw [LS.out]
 go_enter Tryd.func41, Tryd.ntmps41
 try go_wp2
 refine start_ (n := 14) (S := fun w' => w'.cell? ⟨g, 0, none⟩ = some v) (ds := [13]) #[Yn, Yn, Yn, Yn, Yn, Yn, Yn, Yn, Yn, Yn, Yn, Yn, Yn, Yn] (by kernel_rfl) rfl rfl (hc) (fun hHeld => ?_)
 refine pure_ (i := 0) (N := some 4) (v := ?_) (a' := ?_) #[Y, Yn, Yn, Yn, Yn, Yn, Yn, Yn, Yn, Yn, Yn, Yn, Yn, Yn] rfl rfl (by kernel_rfl) (fun _ _ _ h => h) (Or.inl ⟨by rfl, ?_⟩) ?_ ?_
 rotate_left
 ·intro w'
  go_simp
  with_reducible rfl
 rotate_left
 ·simp only [Act.put, List.setIfInBounds_toArray, List.set_cons_zero, List.set_cons_succ, i64_w, i32_w]
  rfl
 refine pure_ (i := 1) (N := some 5) (v := ?_) (a' := ?_) #[Y, Y, Yn, Yn, Yn, Yn, Yn, Yn, Yn, Yn, Yn, Yn, Yn, Yn] rfl rfl (by kernel_rfl) (fun _ _ _ h => h) (Or.inl ⟨by rfl, ?_⟩) ?_ ?_
 rotate_left
 ·intro w'
  go_simp
  with_reducible rfl
 rotate_left
 ·simp only [Act.put, List.setIfInBounds_toArray, List.set_cons_zero, List.set_cons_succ, i64_w, i32_w]
  rfl
 refine pure_ (i := 2) (N := some 6) (v := ?_) (a' := ?_) #[Y, Y, Y, Yn, Yn, Yn, Yn, Yn, Yn, Yn, Yn, Yn, Yn, Yn] rfl rfl (by kernel_rfl) (fun _ _ _ h => h) (Or.inl ⟨by rfl, ?_⟩) ?_ ?_
 rotate_left
 ·intro w'
  go_simp
  with_reducible rfl
 rotate_left
 ·simp only [Act.put, List.setIfInBounds_toArray, List.set_cons_zero, List.set_cons_succ, i64_w, i32_w]
  rfl
 refine pure_ (i := 3) (N := some 7) (v := ?_) (a' := ?_) #[Y, Y, Y, Y, Yn, Yn, Yn, Yn, Yn, Yn, Yn, Yn, Yn, Yn] rfl rfl (by kernel_rfl) (fun _ _ _ h => h) (Or.inl ⟨by rfl, ?_⟩) ?_ ?_
 rotate_left
 ·intro w'
  go_simp
  with_reducible rfl
 rotate_left
 ·simp only [Act.put, List.setIfInBounds_toArray, List.set_cons_zero, List.set_cons_succ, i64_w, i32_w]
  rfl
 refine pure_ (i := 5) (N := some 9) (v := ?_) (a' := ?_) #[Y, Y, Y, Y, Yn, Y, Yn, Yn, Yn, Yn, Yn, Yn, Yn, Yn] rfl rfl (by kernel_rfl) (fun _ _ _ h => h) (Or.inl ⟨by rfl, ?_⟩) ?_ ?_
 rotate_left
 ·intro w'
  go_simp
  with_reducible rfl
 rotate_left
 ·simp only [Act.put, List.setIfInBounds_toArray, List.set_cons_zero, List.set_cons_succ, i64_w, i32_w]
  rfl
 refine pure_ (i := 6) (N := some 10) (v := ?_) (a' := ?_) #[Y, Y, Y, Y, Yn, Y, Y, Yn, Yn, Yn, Yn, Yn, Yn, Yn] rfl rfl (by kernel_rfl) (fun _ _ _ h => h) (Or.inl ⟨by rfl, ?_⟩) ?_ ?_
 rotate_left
 ·intro w'
  go_simp
  with_reducible rfl
 rotate_left
 ·simp only [Act.put, List.setIfInBounds_toArray, List.set_cons_zero, List.set_cons_succ, i64_w, i32_w]
  rfl
 refine pure_ (i := 7) (N := some 11) (v := ?_) (a' := ?_) #[Y, Y, Y, Y, Yn, Y, Y, Y, Yn, Yn, Yn, Yn, Yn, Yn] rfl rfl (by kernel_rfl) (fun _ _ _ h => h) (Or.inl ⟨by rfl, ?_⟩) ?_ ?_
 rotate_left
 ·intro w'
  go_simp
  with_reducible rfl
 rotate_left
 ·simp only [Act.put, List.setIfInBounds_toArray, List.set_cons_zero, List.set_cons_succ, i64_w, i32_w]
  rfl
 refine take_ (i := 4) (N := some 8) (v := ?_) (a' := ?_) #[Y, Y, Y, Y, Y, Y, Y, Y, Yn, Yn, Yn, Yn, Yn, Yn] rfl rfl (by kernel_rfl) (fun _ _ _ h => h) (Or.inl ⟨by rfl, ?_⟩) hHeld ?_ ?_
 rotate_left
 ·intro w' s0
  go_simp
  with_reducible rfl
 rotate_left
 ·simp only [Act.put, List.setIfInBounds_toArray, List.set_cons_zero, List.set_cons_succ, i64_w, i32_w]
  rfl
 refine one_ (i := 8) (N := some 12) #[Y, Y, Y, Y, Y, Y, Y, Y, Y, Yn, Yn, Yn, Yn, Yn] rfl rfl (by kernel_rfl) (by decide) (fun K hK => ?_)
 refine goes_ Tryd.func70 (by kernel_rfl) rfl #[.int .i64 n] (by rfl) rfl rfl (by simp only [List.map_toArray, List.map_cons, List.map_nil]; rfl) ?_
 with_reducible refine (codec_spread.calls k n wd _ (Glob.below hG.out (below_drew1 (Below.refl _ _))) hw.out).mono ?_
 rintro e w7 ⟨rfl, ⟨nd, rfl⟩⟩
 refine ⟨_, rfl, ?_⟩
 have HB7 := Aside0.mk (pw_below_drewN (below_drew1 (Below.refl w.heap.size w)) nd)
 refine hK.out _ _ (hHeld) (fun hHeld => ?_)
 clear hK K
 refine norm_ (a' := ?_) ?_ ?_
 rotate_left
 ·show Act.put _ (some 12) _ = _
  simp only [Act.put, List.setIfInBounds_toArray, List.set_cons_zero, List.set_cons_succ, i64_w, i32_w]
  rfl
 refine one_ (i := 9) (N := some 13) #[Y, Y, Y, Y, Y, Y, Y, Y, Y, Y, Yn, Yn, Yn, Yn] rfl rfl (by kernel_rfl) (by decide) (fun K hK => ?_)
 refine goes_ Tryd.func68 (by kernel_rfl) rfl #[.int .u8 32, .int .u64 (IntKind.u64.wrap n), .int .i64 wd] (by rfl) rfl rfl (by simp only [List.map_toArray, List.map_cons, List.map_nil]; rfl) ?_
 with_reducible refine (codec_number.calls k2 32 (IntKind.u64.wrap n) wd bs _ (Glob.below hG.out HB7.out) hn.out).mono ?_
 rintro e w8 ⟨v2, rfl, hv2, hb8⟩
 refine ⟨_, rfl, ?_⟩
 have HB8 := Aside0.mk (below_step HB7.out hb8)
 obtain ⟨A2, c2, e2⟩ := Kd.R_slice hv2
 subst e2
 have HR2 := Aside0.mk hv2
 have hk := Aside0.mk hb8
 clear hb8 hv2 HB7
 refine hK.out _ _ (pw_cell_below hk.out hHeld) (fun hHeld => ?_)
 clear hK K
 refine norm_ (a' := ?_) ?_ ?_
 rotate_left
 ·show Act.put _ (some 13) _ = _
  simp only [Act.put, List.setIfInBounds_toArray, List.set_cons_zero, List.set_cons_succ, i64_w, i32_w]
  rfl
 refine one_ (i := 10) (N := some 14) #[Y, Y, Y, Y, Y, Y, Y, Y, Y, Y, Y, Yn, Yn, Yn] rfl rfl (by kernel_rfl) (by decide) (fun K hK => ?_)
 refine Kd.R_append_rows_step (Kd.int .u8) (w0 := w) B (by rfl) (.tmp 8) (.tmp 13) 80 5 (.int .u8 0) 1 rfl Tryd.underlying80 info5 rfl (by decide) (by omega) v l bs _ _ _ (fun _ => True) (fun _ => False) rfl rfl (Kd.R_below HO.out HB8.out) (Kd.R_reads' HR2.out).2.2 (fun _ _ h => h) (fun _ h => h.elim) (fun _ _ => trivial) (HB8.out.mono HS.out) (Nat.le_trans HS.out HB8.out.size) (by omega) ?_
 intro v1 w9 ho hb hg hat
 rw [LS.out] at ho
 obtain ⟨A1, c1, e1⟩ := Kd.R_slice ho
 subst e1
 have HW := Aside0.mk (wr_step HV.out HG.out HO.out HB8.out ho hb hg)
 have hcc := HW.out.cell
 have hff := HW.out.free
 clear ho hb hg hat
 refine hK.out _ _ (hcc) (fun hHeld => ?_)
 clear hK K
 refine norm_ (a' := ?_) ?_ ?_
 rotate_left
 ·show Act.put _ (some 14) _ = _
  simp only [Act.put, List.setIfInBounds_toArray, List.set_cons_zero, List.set_cons_succ, i64_w, i32_w]
  rfl
 refine pure_ (i := 11) (N := some 15) (v := ?_) (a' := ?_) #[Y, Y, Y, Y, Y, Y, Y, Y, Y, Y, Y, Y, Yn, Yn] rfl rfl (by kernel_rfl) (fun _ _ _ h => h) (Or.inl ⟨by rfl, ?_⟩) ?_ ?_
 rotate_left
 ·intro w'
  go_simp
  with_reducible rfl
 rotate_left
 ·simp only [Act.put, List.setIfInBounds_toArray, List.set_cons_zero, List.set_cons_succ, i64_w, i32_w]
  rfl
 refine pure_ (i := 12) (N := some 16) (v := ?_) (a' := ?_) #[Y, Y, Y, Y, Y, Y, Y, Y, Y, Y, Y, Y, Y, Yn] rfl rfl (by kernel_rfl) (fun _ _ _ h => h) (Or.inl ⟨by rfl, ?_⟩) ?_ ?_
 rotate_left
 ·intro w'
  go_simp
  with_reducible rfl
 rotate_left
 ·simp only [Act.put, List.setIfInBounds_toArray, List.set_cons_zero, List.set_cons_succ, i64_w, i32_w]
  rfl
 refine last_ (i := 13) (N := none) #[Y, Y, Y, Y, Y, Y, Y, Y, Y, Y, Y, Y, Y, Y] rfl rfl (by kernel_rfl) (by decide) (fun K hK => ?_)
 refine skip_ (w1 := ?_) (by rfl) rfl ?_ ?_
 rotate_left
 ·go_simp
  rfl
 refine hK.out _ _ ?_
 clear hK K
 refine done_ (by kernel_rfl) ?_
 try go_wp2
 refine bodyPost_end (results_none rfl _ _ _) rfl ?_
 exact ⟨rfl, HW.out.at_, HW.out.bel, HW.out.keep⟩
theorem Glob.base {B : Nat} {w w1 : World} (hG : Glob w) (h0 : 0 < B) (hb : Below B w w1) : Glob w1 := by
 obtain ⟨t, h⟩ := hG
 exact ⟨t, (hb.block 0 h0).trans h⟩
set_option maxHeartbeats 8000000 in
set_option maxRecDepth 100000 in
theorem wr_list (k k2 : Nat) (B g : Nat) (l : List Int) (n wd : Int) (bs : List Int) (w : World) (hG : Aside0 (Glob w)) (h0 : 0 < B) (hB : B ≤ w.heap.size) (h : WrAt B g l w) (hl : l.length + 1 + bs.length ≤ wrMax) (hr : 0 ≤ n ∧ n ≤ 65535) (hw' : Aside0 (codec_width.f k n = some wd)) (hn' : Aside0 (codec_number.f k2 16 n wd = some bs)) :
  Calls Tryd.prog 39 #[.pointer (some ⟨g, 0, none⟩), .int .i64 n] w fun e w' => WrPost B g (l ++ [64] ++ bs) w (.int .i64 0) e w' := by
 have hwn : IntKind.u64.wrap n = n := by
  show n % 18446744073709551616 = n
  omega
 have hw : Aside0 (codec_width.f k (IntKind.u64.wrap n) = some wd) := ⟨by rw [hwn]; exact hw'.out⟩
 have hn : Aside0 (codec_number.f k2 16 (IntKind.u64.wrap n) wd = some bs) := ⟨by rw [hwn]; exact hn'.out⟩
 clear hw' hn' hwn
 obtain ⟨v, hv, hg, ho⟩ := h
 unfold wrMax at hl
 have HV := Aside0.mk hv
 have HO := Aside0.mk ho
 have HG := Aside0.mk hg
 have HS := Aside0.mk hB
 have hc := (blk_cell hv 0).trans rfl
 clear hv ho hg hB
 obtain ⟨ls, LS⟩ : ∃ ls, Aside0 (l ++ [64] = ls) := ⟨_, ⟨rfl⟩⟩
 rw [LS.out]
 have hl2 : ls.length + bs.length ≤ wrMax := by rw [← LS.out]; simp [wrMax]; omega
 have hb0 : decide (n < 0) = false := decide_eq_false (by omega)
 have hb1 : decide (65535 < n) = false := decide_eq_false (by omega)
 have H0 := Aside0.mk h0
 clear hr h0
 go_enter Tryd.func39, Tryd.ntmps39
 go_wp2_with (first | (at_builtin; refine Kd.R_append (Kd.int .u8) (w0 := w) B rfl (.tmp 15) (.tmp 16) 80 5 (.int .u8 0) 1 rfl Tryd.underlying80 info5 rfl (by decide) (by omega) v l 64 [.int .u8 64] (fun _ => True) (fun _ => False) rfl rfl rfl (fun _ hk => hk.elim) (fun _ _ => trivial) HO.out (Below.refl _ _) HS.out (by omega) ?_; intro v1 w9 ho hb hg hat; rw [LS.out] at ho; obtain ⟨A1, c1, e1⟩ := Kd.R_slice ho; subst e1; have HW := Aside0.mk (wr_step HV.out HG.out HO.out (Below.refl _ _) ho hb hg); have hcc := HW.out.cell; have hff := HW.out.free; clear ho hb hg hat hc) | (go_at_call 40; (with_reducible refine (wr_unsigned k k2 B g ls _ wd bs _ ⟨Glob.base hG.out H0.out HW.out.bel⟩ (Nat.le_trans HS.out HW.out.keep.size) HW.out.at_ hl2 hw hn).mono ?_); rintro e w5 ⟨rfl, ha, hb, hk⟩; have HA := Aside0.mk ha; have HBB := Aside0.mk (HW.out.bel.trans hb); have HKK := Aside0.mk (HW.out.keep.trans hk); clear ha hb hk))
 go_ret
 exact ⟨rfl, HA.out, HBB.out, HKK.out⟩
theorem wr_step2 {B g : Nat} {l l' : List Int} {w w1 : World} {v v1 : Value} (hv : w.heap[g]? = some (.cells #[v] 82 (0, 0))) (hg : B ≤ g) (ho : Kd.R (Kd.int .u8) 5 w B (fun _ => True) v l)
  (ho1 : Kd.R (Kd.int .u8) 5 w1 B (fun _ => True) v1 l') (hbel : Below B w w1) (hgr : w.grownBy w1 v.ownBlock) : WrStep B g l' w w1 v v1 := wr_step hv hg ho (Below.refl _ _) ho1 hbel hgr
theorem R_of_own {w : World} {B : Nat} {v : Value} {l : List Int} (h : w.ownsRow B 5 1 v l.length (nums .u8 l)) : Kd.R (Kd.int .u8) 5 w B (fun _ => True) v l := by
 refine ⟨fun _ _ => trivial, nums .u8 l, h, ?_⟩
 refine ⟨by show (nums .u8 l).length = l.length * 1; simp [nums], fun j p hj => ?_⟩
 obtain ⟨hl, hp⟩ := List.getElem?_eq_some_iff.1 hj
 have hlt : j < (nums .u8 l).length := by simpa [nums] using hl
 show List.take 1 (List.drop (j * 1) (nums .u8 l)) = [.int .u8 p]
 rw [Nat.mul_one, List.drop_eq_getElem_cons hlt]
 simp [nums, hp]
set_option maxHeartbeats 8000000 in
set_option maxRecDepth 100000 in
theorem wr_text (k k2 : Nat) (B g : Nat) (l : List Int) (s : ByteArray) (wd : Int) (bs : List Int) (w : World) (hG : Aside0 (Glob w)) (h0 : 0 < B) (hB : B ≤ w.heap.size) (h : WrAt B g l w) (hl : l.length + 1 + bs.length + s.size ≤ wrMax) (hr : s.size ≤ 65535) (hw : Aside0 (codec_width.f k (s.size : Int) = some wd)) (hn : Aside0 (codec_number.f k2 16 (s.size : Int) wd = some bs)) :
  Calls Tryd.prog 43 #[.pointer (some ⟨g, 0, none⟩), .string s] w fun e w' => WrPost B g (l ++ [48] ++ bs ++ bytesOf s) w (.int .i64 0) e w' := by
 obtain ⟨v, hv, hg, ho⟩ := h
 unfold wrMax at hl
 have HV := Aside0.mk hv
 have HO := Aside0.mk ho
 have HG := Aside0.mk hg
 have HS := Aside0.mk hB
 have hc := (blk_cell hv 0).trans rfl
 clear hv ho hg hB
 obtain ⟨ls, LS⟩ : ∃ ls, Aside0 (l ++ [48] = ls) := ⟨_, ⟨rfl⟩⟩
 rw [LS.out]
 obtain ⟨l2, L2⟩ : ∃ l2, Aside0 (ls ++ bs = l2) := ⟨_, ⟨rfl⟩⟩
 rw [L2.out]
 obtain ⟨l3, L3⟩ : ∃ l3, Aside0 (l2 ++ bytesOf s = l3) := ⟨_, ⟨rfl⟩⟩
 rw [L3.out]
 have hl2 : ls.length + bs.length ≤ wrMax := by rw [← LS.out]; simp [wrMax]; omega
 have hl3 := Aside0.mk (show l2.length + s.size ≤ 140737488355328 by rw [← L2.out, ← LS.out]; simp; omega)
 have hb0 : decide (65535 < (s.size : Int)) = false := decide_eq_false (by omega)
 have hb1 : decide (65535 < s.size) = false := decide_eq_false (by omega)
 have H0 := Aside0.mk h0
 clear hr h0
 go_enter Tryd.func43, Tryd.ntmps43
 go_wp2_with (first | (at_builtin; refine Kd.R_append (Kd.int .u8) (w0 := w) B rfl (.tmp 12) (.tmp 13) 80 5 (.int .u8 0) 1 rfl Tryd.underlying80 info5 rfl (by decide) (by omega) v l 48 [.int .u8 48] (fun _ => True) (fun _ => False) rfl rfl rfl (fun _ hk => hk.elim) (fun _ _ => trivial) HO.out (Below.refl _ _) HS.out (by omega) ?_; intro v1 w9 ho hb hg hat; rw [LS.out] at ho; obtain ⟨A1, c1, e1⟩ := Kd.R_slice ho; subst e1; have HW := Aside0.mk (wr_step HV.out HG.out HO.out (Below.refl _ _) ho hb hg); have hcc := HW.out.cell; have hff := HW.out.free; clear ho hb hg hat hc) | ((go_at_call 40; (with_reducible refine (wr_unsigned k k2 B g ls _ wd bs _ ⟨Glob.base hG.out H0.out HW.out.bel⟩ (Nat.le_trans HS.out HW.out.keep.size) HW.out.at_ hl2 hw hn).mono ?_); rintro e w5 ⟨rfl, ha, hb, hk⟩; have HA := Aside0.mk ha; have HBB := Aside0.mk (HW.out.bel.trans hb); have HKK := Aside0.mk (HW.out.keep.trans hk); clear ha hb hk); rw [L2.out] at HA; obtain ⟨v2, hv2, _, ho2⟩ := HA.out; obtain ⟨A2, c2, e2⟩ := Kd.R_slice ho2; subst e2; have HV2 := Aside0.mk hv2; have HO2 := Aside0.mk ho2; have HN2 : Aside0 (w5.ownsRow B 5 1 (.slice A2 l2.length c2) l2.length (nums .u8 l2)) := ⟨Kd.own_of_R ho2⟩; have hc2 := (blk_cell hv2 0).trans rfl; clear hv2 ho2 HA) | (refine print_append_str (w0 := w5) B rfl (.tmp 26) (.tmp 27) 80 9 5 rfl Tryd.underlying80 Tryd.underlying9 info5 (.slice A2 l2.length c2) l2 s ?h1 ?h2 ?aO ?aB ?aS ?aL ?_; (case h1 => rfl); (case h2 => rfl); (case aO => exact HN2.out); (case aB => exact Below.refl _ _); (case aS => exact Nat.le_trans HS.out HKK.out.size); (case aL => exact hl3.out); intro v3 w9 ho hb hg; have ho' := R_of_own ho; rw [L3.out] at ho'; obtain ⟨A3, c3, e3⟩ := Kd.R_slice ho'; subst e3; have HW3 := Aside0.mk (wr_step2 HV2.out HG.out HO2.out ho' hb hg); have hcc3 := HW3.out.cell; have hff3 := HW3.out.free; clear ho ho' hb hg hc2))
 go_ret
 exact ⟨rfl, HW3.out.at_, HBB.out.trans HW3.out.bel, HKK.out.trans HW3.out.keep⟩
set_option maxHeartbeats 8000000 in
set_option maxRecDepth 100000 in
theorem wr_data (B g : Nat) (l : List Int) (w : World) (h : WrAt B g l w) :
  Calls Tryd.prog 44 #[.pointer (some ⟨g, 0, none⟩)] w fun e w' => e = .returned (.string (strOfNums l)) ∧ w' = w := by
 obtain ⟨v, hv, hg, ho⟩ := h
 obtain ⟨A1, c1, e1⟩ := Kd.R_slice ho
 subst e1
 have hc := (blk_cell hv 0).trans rfl
 have hcv := own_string (w := w) (P := Tryd.prog) Tryd.underlying80 Tryd.underlying5 Tryd.underlying9 (Kd.own_of_R ho)
 clear hv ho hg
 go_enter Tryd.func44, Tryd.ntmps44
 go_wp2
 go_ret
 exact ⟨rfl, rfl⟩
end Go.Proofs.YtbgabhknmpbgiaaDoor.S
end
section
namespace Go.Proofs.YtbgabhknmpbgiaaDoor.S
open Go.RowKit Go.Proofs.YtbgabhknmpbgiaaDoor.Pure Go.Proofs.YtbgabhknmpbgiaaDoorW.PrintWords Go.Proofs.YtbgabhknmpbgiaaDoorW.PrintLast Go.Proofs.YtbgabhknmpbgiaaDoorW.PrintMore
set_option linter.unusedVariables false
set_option linter.unusedSimpArgs false
attribute [local go_sem] max2_int min2_int max_two min_two
def encB (x : S23) : List Int := [] ++ [64] ++ uB 6 ++ uB x.f0 ++ uB x.f1 ++ sB x.f2 ++ [if x.f3 = true then 2 else 1] ++ uB x.f4 ++ [48] ++ uB (x.f5.size : Int) ++ bytesOf x.f5
structure Ok23 (x : S23) : Prop where
 k0 : 0 ≤ x.f0
 k1 : x.f0 ≤ 3
 i0 : 0 ≤ x.f1
 i1 : x.f1 ≤ 255
 n0 : -1 ≤ x.f2
 n1 : x.f2 ≤ 63
 w0 : 0 ≤ x.f4
 w1 : x.f4 ≤ 16
 t : x.f5.size ≤ 400
def EncPost (w : World) (s : ByteArray) (e0 : Int) (e : Ending) (w' : World) : Prop := e = .returned (.tuple #[.string s, .int .i64 e0]) ∧ Below w.heap.size w w'
set_option maxHeartbeats 16000000 in
set_option maxRecDepth 100000 in
theorem encode_calls (k : Nat) (x : S23) (e0 : Int) (w : World) (hG : Glob w) (hc : segment_Check.f k x.f0 x.f1 x.f2 x.f3 x.f4 x.f5 = some e0) (hr : e0 = 0 → Ok23 x) :
  Calls Tryd.prog 13 #[.agg #[.int .i64 x.f0, .int .i64 x.f1, .int .i64 x.f2, .bool x.f3, .int .i64 x.f4, .string x.f5]] w fun e w' => EncPost w (if e0 = 0 then strOfNums (encB x) else ⟨#[]⟩) e0 e w' := by
 have HG := Aside0.mk hG
 have HCK := Aside0.mk hc
 have H0 := Aside0.mk (show 0 < w.heap.size by obtain ⟨t, h⟩ := hG; exact blk_lt h)
 clear hG hc
 by_cases z : e0 = 0
 ·have zb : (e0 != 0) = false := by rw [z]; rfl
  obtain ⟨hk0, hk1, hi0, hi1, hn0, hn1, hw0, hw1, ht⟩ := hr z
  rw [if_pos z]
  have HZ := Aside0.mk z
  have HN6 := Aside0.mk (numUn 0 6 (by omega) (by omega))
  have HD6 := Aside0.mk (width_eq 0 6 (by omega) (by omega))
  have HNk := Aside0.mk (numUn 0 x.f0 (by omega) (by omega))
  have HDk := Aside0.mk (width_eq 0 x.f0 (by omega) (by omega))
  have HNi := Aside0.mk (numUn 0 x.f1 (by omega) (by omega))
  have HDi := Aside0.mk (width_eq 0 x.f1 (by omega) (by omega))
  have HNw := Aside0.mk (numUn 0 x.f4 (by omega) (by omega))
  have HDw := Aside0.mk (width_eq 0 x.f4 (by omega) (by omega))
  have HNt := Aside0.mk (numUn 0 (x.f5.size : Int) (by omega) (by omega))
  have HDt := Aside0.mk (width_eq 0 (x.f5.size : Int) (by omega) (by omega))
  have HNn := Aside0.mk (numSg 0 x.f2 (by omega) (by omega))
  have HDn := Aside0.mk (spread_eq 0 x.f2 (by omega) (by omega))
  obtain ⟨L1, HL1⟩ : ∃ l, Aside0 ([] ++ [64] ++ uB 6 = l) := ⟨_, ⟨rfl⟩⟩
  obtain ⟨L2, HL2⟩ : ∃ l, Aside0 (L1 ++ uB x.f0 = l) := ⟨_, ⟨rfl⟩⟩
  obtain ⟨L3, HL3⟩ : ∃ l, Aside0 (L2 ++ uB x.f1 = l) := ⟨_, ⟨rfl⟩⟩
  obtain ⟨L4, HL4⟩ : ∃ l, Aside0 (L3 ++ sB x.f2 = l) := ⟨_, ⟨rfl⟩⟩
  obtain ⟨L5, HL5⟩ : ∃ l, Aside0 (L4 ++ [if x.f3 = true then 2 else 1] = l) := ⟨_, ⟨rfl⟩⟩
  obtain ⟨L6, HL6⟩ : ∃ l, Aside0 (L5 ++ uB x.f4 = l) := ⟨_, ⟨rfl⟩⟩
  obtain ⟨L7, HL7⟩ : ∃ l, Aside0 (L6 ++ [48] ++ uB (x.f5.size : Int) ++ bytesOf x.f5 = l) := ⟨_, ⟨rfl⟩⟩
  have b6 := uB_len 6
  have bk := uB_len x.f0
  have bi := uB_len x.f1
  have bn := sB_len x.f2 (by omega) (by omega)
  have bw := uB_len x.f4
  have bt_ := uB_len (x.f5.size : Int)
  have e1 : L1.length = 1 + (uB 6).length := by rw [← HL1.out]; simp; omega
  have e2 : L2.length = L1.length + (uB x.f0).length := by rw [← HL2.out, List.length_append]
  have e3 : L3.length = L2.length + (uB x.f1).length := by rw [← HL3.out, List.length_append]
  have e4 : L4.length = L3.length + (sB x.f2).length := by rw [← HL4.out, List.length_append]
  have e5 : L5.length = L4.length + 1 := by rw [← HL5.out, List.length_append]; rfl
  have e6 : L6.length = L5.length + (uB x.f4).length := by rw [← HL6.out, List.length_append]
  have HW1 := Aside0.mk (show ([] : List Int).length + 1 + (uB 6).length ≤ wrMax by simp only [List.length_nil]; unfold wrMax; omega)
  have HW2 := Aside0.mk (show L1.length + (uB x.f0).length ≤ wrMax by unfold wrMax; omega)
  have HW3 := Aside0.mk (show L2.length + (uB x.f1).length ≤ wrMax by unfold wrMax; omega)
  have HW4 := Aside0.mk (show L3.length + (sB x.f2).length ≤ wrMax by unfold wrMax; omega)
  have HW5 := Aside0.mk (show L4.length ≤ wrMax by unfold wrMax; omega)
  have HW6 := Aside0.mk (show L5.length + (uB x.f4).length ≤ wrMax by unfold wrMax; omega)
  have HW7 := Aside0.mk (show L6.length + 1 + (uB (x.f5.size : Int)).length + x.f5.size ≤ wrMax by unfold wrMax; omega)
  have HT := Aside0.mk (show x.f5.size ≤ 65535 by omega)
  have HR6 := Aside0.mk (show (0 : Int) ≤ 6 ∧ (6 : Int) ≤ 65535 by decide)
  have HE := Aside0.mk (show encB x = L7 by unfold encB; rw [HL1.out, HL2.out, HL3.out, HL4.out, HL5.out, HL6.out, HL7.out])
  rw [HE.out]
  have wk : IntKind.u64.wrap x.f0 = x.f0 := by show x.f0 % 18446744073709551616 = _; omega
  have wi : IntKind.u64.wrap x.f1 = x.f1 := by show x.f1 % 18446744073709551616 = _; omega
  have ww : IntKind.u64.wrap x.f4 = x.f4 := by show x.f4 % 18446744073709551616 = _; omega
  clear hk0 hk1 hi0 hi1 hn0 hn1 hw0 hw1 ht b6 bk bi bn bw bt_ e1 e2 e3 e4 e5 e6 z hr
  go_enter Tryd.func13, Tryd.ntmps13
  go_wp2_with (first | ((with_reducible refine gate_dst (N := 1) rfl ?_); refine box_event ?hg (N := 1) ?hd (cs := #[.int .i64 x.f0, .int .i64 x.f1, .int .i64 x.f2, .bool x.f3, .int .i64 x.f4, .string x.f5]) (t := 23) ?hr ?_; (case hd => rfl); (case hg => rfl); (case hr => first | (go_simp; done) | (go_simp; rfl)); intro gp hgp wa hbox hb; have HPa := Aside0.mk hbox; have HBa := Aside0.mk hb; have y0 := (blk_cell HPa.out 0).trans rfl; have y1 := (blk_cell HPa.out 1).trans rfl; have y2 := (blk_cell HPa.out 2).trans rfl; have y3 := (blk_cell HPa.out 3).trans rfl; have y4 := (blk_cell HPa.out 4).trans rfl; have y5 := (blk_cell HPa.out 5).trans rfl; clear hb hbox hgp) | (go_at_call 16; (with_reducible refine (segment_Check.calls k x.f0 x.f1 x.f2 x.f3 x.f4 x.f5 e0 _ (Glob.below HG.out HBa.out) HCK.out).mono ?_); rintro e wb ⟨rfl, hb⟩; have HBb := Aside0.mk (below_step HBa.out hb); have HPb := Aside0.mk (blk_below HPa.out hb); clear hb y0 y1 y2 y3 y4 y5) | ((with_reducible refine gate_dst (N := 12) rfl ?_); refine box_event ?hg (N := 12) ?hd (cs := #[.slice none 0 0]) (t := 82) ?hr ?_; (case hd => rfl); (case hg => rfl); (case hr => first | (go_simp; done) | (go_simp; rfl)); intro g hg w0 hbox hb; have HA0 : Aside0 (WrAt w.heap.size g [] w0) := ⟨⟨_, hbox, by rw [hg]; exact HBb.out.size, Kd.R_nil _ _ _ _ _⟩⟩; have HB0 := Aside0.mk (below_step HBb.out hb); have HP0 := Aside0.mk (blk_below HPb.out hb); have HZ0 := Aside0.mk HB0.out.size; have y0 := (blk_cell HP0.out 0).trans rfl; have y1 := (blk_cell HP0.out 1).trans rfl; have y2 := (blk_cell HP0.out 2).trans rfl; have y3 := (blk_cell HP0.out 3).trans rfl; have y4 := (blk_cell HP0.out 4).trans rfl; have y5 := (blk_cell HP0.out 5).trans rfl; clear hb hbox hg) | (go_at_call 39; (with_reducible refine (wr_list 1 10 w.heap.size g [] 6 _ _ _ ⟨Glob.base HG.out H0.out HB0.out⟩ H0.out HZ0.out HA0.out HW1.out HR6.out HD6 HN6).mono ?_); rintro e w1 ⟨rfl, ha, hb, hk⟩; rw [HL1.out] at ha; have HA1 := Aside0.mk ha; have HB1 := Aside0.mk (HB0.out.trans hb); have HP1 := Aside0.mk (hk.keep _ _ _ HP0.out (by decide) (by decide)); have HZ1 := Aside0.mk (Nat.le_trans HZ0.out hk.size); clear ha hb hk y0 y1 y2 y3 y4 y5; have y0 := (blk_cell HP1.out 0).trans rfl; have y1 := (blk_cell HP1.out 1).trans rfl; have y2 := (blk_cell HP1.out 2).trans rfl; have y3 := (blk_cell HP1.out 3).trans rfl; have y4 := (blk_cell HP1.out 4).trans rfl; have y5 := (blk_cell HP1.out 5).trans rfl) | (go_at_call 40; (with_reducible refine (wr_unsigned 1 10 w.heap.size g L1 x.f0 _ _ _ ⟨Glob.base HG.out H0.out HB1.out⟩ HZ1.out HA1.out HW2.out HDk HNk).mono ?_); rintro e w2 ⟨rfl, ha, hb, hk⟩; rw [HL2.out] at ha; have HA2 := Aside0.mk ha; have HB2 := Aside0.mk (HB1.out.trans hb); have HP2 := Aside0.mk (hk.keep _ _ _ HP1.out (by decide) (by decide)); have HZ2 := Aside0.mk (Nat.le_trans HZ1.out hk.size); clear ha hb hk y0 y1 y2 y3 y4 y5; have y0 := (blk_cell HP2.out 0).trans rfl; have y1 := (blk_cell HP2.out 1).trans rfl; have y2 := (blk_cell HP2.out 2).trans rfl; have y3 := (blk_cell HP2.out 3).trans rfl; have y4 := (blk_cell HP2.out 4).trans rfl; have y5 := (blk_cell HP2.out 5).trans rfl) | (go_at_call 40; (with_reducible refine (wr_unsigned 1 10 w.heap.size g L2 x.f1 _ _ _ ⟨Glob.base HG.out H0.out HB2.out⟩ HZ2.out HA2.out HW3.out HDi HNi).mono ?_); rintro e w3 ⟨rfl, ha, hb, hk⟩; rw [HL3.out] at ha; have HA3 := Aside0.mk ha; have HB3 := Aside0.mk (HB2.out.trans hb); have HP3 := Aside0.mk (hk.keep _ _ _ HP2.out (by decide) (by decide)); have HZ3 := Aside0.mk (Nat.le_trans HZ2.out hk.size); clear ha hb hk y0 y1 y2 y3 y4 y5; have y0 := (blk_cell HP3.out 0).trans rfl; have y1 := (blk_cell HP3.out 1).trans rfl; have y2 := (blk_cell HP3.out 2).trans rfl; have y3 := (blk_cell HP3.out 3).trans rfl; have y4 := (blk_cell HP3.out 4).trans rfl; have y5 := (blk_cell HP3.out 5).trans rfl) | (go_at_call 41; (with_reducible refine (wr_signed 1 10 w.heap.size g L3 x.f2 _ _ _ ⟨Glob.base HG.out H0.out HB3.out⟩ HZ3.out HA3.out HW4.out HDn HNn).mono ?_); rintro e w4 ⟨rfl, ha, hb, hk⟩; rw [HL4.out] at ha; have HA4 := Aside0.mk ha; have HB4 := Aside0.mk (HB3.out.trans hb); have HP4 := Aside0.mk (hk.keep _ _ _ HP3.out (by decide) (by decide)); have HZ4 := Aside0.mk (Nat.le_trans HZ3.out hk.size); clear ha hb hk y0 y1 y2 y3 y4 y5; have y0 := (blk_cell HP4.out 0).trans rfl; have y1 := (blk_cell HP4.out 1).trans rfl; have y2 := (blk_cell HP4.out 2).trans rfl; have y3 := (blk_cell HP4.out 3).trans rfl; have y4 := (blk_cell HP4.out 4).trans rfl; have y5 := (blk_cell HP4.out 5).trans rfl) | (go_at_call 42; (with_reducible refine (wr_bool w.heap.size g L4 x.f3 _ HZ4.out HA4.out HW5.out).mono ?_); rintro e w5 ⟨rfl, ha, hb, hk⟩; rw [HL5.out] at ha; have HA5 := Aside0.mk ha; have HB5 := Aside0.mk (HB4.out.trans hb); have HP5 := Aside0.mk (hk.keep _ _ _ HP4.out (by decide) (by decide)); have HZ5 := Aside0.mk (Nat.le_trans HZ4.out hk.size); clear ha hb hk y0 y1 y2 y3 y4 y5; have y0 := (blk_cell HP5.out 0).trans rfl; have y1 := (blk_cell HP5.out 1).trans rfl; have y2 := (blk_cell HP5.out 2).trans rfl; have y3 := (blk_cell HP5.out 3).trans rfl; have y4 := (blk_cell HP5.out 4).trans rfl; have y5 := (blk_cell HP5.out 5).trans rfl) | (go_at_call 40; (with_reducible refine (wr_unsigned 1 10 w.heap.size g L5 x.f4 _ _ _ ⟨Glob.base HG.out H0.out HB5.out⟩ HZ5.out HA5.out HW6.out HDw HNw).mono ?_); rintro e w6 ⟨rfl, ha, hb, hk⟩; rw [HL6.out] at ha; have HA6 := Aside0.mk ha; have HB6 := Aside0.mk (HB5.out.trans hb); have HP6 := Aside0.mk (hk.keep _ _ _ HP5.out (by decide) (by decide)); have HZ6 := Aside0.mk (Nat.le_trans HZ5.out hk.size); clear ha hb hk y0 y1 y2 y3 y4 y5; have y0 := (blk_cell HP6.out 0).trans rfl; have y1 := (blk_cell HP6.out 1).trans rfl; have y2 := (blk_cell HP6.out 2).trans rfl; have y3 := (blk_cell HP6.out 3).trans rfl; have y4 := (blk_cell HP6.out 4).trans rfl; have y5 := (blk_cell HP6.out 5).trans rfl) | (go_at_call 43; (with_reducible refine (wr_text 1 10 w.heap.size g L6 x.f5 _ _ _ ⟨Glob.base HG.out H0.out HB6.out⟩ H0.out HZ6.out HA6.out HW7.out HT.out HDt HNt).mono ?_); rintro e w7 ⟨rfl, ha, hb, hk⟩; rw [HL7.out] at ha; have HA7 := Aside0.mk ha; have HB7 := Aside0.mk (HB6.out.trans hb); have HP7 := Aside0.mk (hk.keep _ _ _ HP6.out (by decide) (by decide)); have HZ7 := Aside0.mk (Nat.le_trans HZ6.out hk.size); clear ha hb hk y0 y1 y2 y3 y4 y5; have y0 := (blk_cell HP7.out 0).trans rfl; have y1 := (blk_cell HP7.out 1).trans rfl; have y2 := (blk_cell HP7.out 2).trans rfl; have y3 := (blk_cell HP7.out 3).trans rfl; have y4 := (blk_cell HP7.out 4).trans rfl; have y5 := (blk_cell HP7.out 5).trans rfl) | (go_at_call 44; (with_reducible refine (wr_data w.heap.size g L7 _ HA7.out).mono ?_); rintro e w8 ⟨rfl, rfl⟩))
  go_ret2
  exact ⟨by rw [HZ.out]; rfl, HB7.out⟩
 ·have zb : (e0 != 0) = true := bne_iff_ne.mpr z
  rw [if_neg z]
  clear z hr
  go_enter Tryd.func13, Tryd.ntmps13
  go_wp2_with (first | ((with_reducible refine gate_dst (N := 1) rfl ?_); refine box_event ?hg (N := 1) ?hd (cs := #[.int .i64 x.f0, .int .i64 x.f1, .int .i64 x.f2, .bool x.f3, .int .i64 x.f4, .string x.f5]) (t := 23) ?hr ?_; (case hd => rfl); (case hg => rfl); (case hr => first | (go_simp; done) | (go_simp; rfl)); intro gp hgp wa hbox hb; have HPa := Aside0.mk hbox; have HBa := Aside0.mk hb; have y0 := (blk_cell HPa.out 0).trans rfl; have y1 := (blk_cell HPa.out 1).trans rfl; have y2 := (blk_cell HPa.out 2).trans rfl; have y3 := (blk_cell HPa.out 3).trans rfl; have y4 := (blk_cell HPa.out 4).trans rfl; have y5 := (blk_cell HPa.out 5).trans rfl; clear hb hbox hgp) | (go_at_call 16; (with_reducible refine (segment_Check.calls k x.f0 x.f1 x.f2 x.f3 x.f4 x.f5 e0 _ (Glob.below HG.out HBa.out) HCK.out).mono ?_); rintro e wb ⟨rfl, hb⟩; have HBb := Aside0.mk (below_step HBa.out hb); have HPb := Aside0.mk (blk_below HPa.out hb); clear hb y0 y1 y2 y3 y4 y5))
  go_ret2
  exact ⟨rfl, HBb.out⟩
end Go.Proofs.YtbgabhknmpbgiaaDoor.S
end
section
namespace Go.Proofs.YtbgabhknmpbgiaaDoor.S
open Go.RowKit Go.Proofs.YtbgabhknmpbgiaaDoor.Pure Go.Proofs.YtbgabhknmpbgiaaDoorW.PrintWords Go.Proofs.YtbgabhknmpbgiaaDoorW.PrintLast Go.Proofs.YtbgabhknmpbgiaaDoorW.PrintMore
set_option linter.unusedVariables false
def segment_Encode.f (a0_0 : Int) (a0_1 : Int) (a0_2 : Int) (a0_3 : Bool) (a0_4 : Int) (a0_5 : ByteArray) : Option (ByteArray × Int) :=
 (segment_Check.f 40 a0_0 a0_1 a0_2 a0_3 a0_4 a0_5).bind fun e0 => if e0 = 0 then (if 0 ≤ a0_0 ∧ a0_0 ≤ 3 ∧ 0 ≤ a0_1 ∧ a0_1 ≤ 255 ∧ -1 ≤ a0_2 ∧ a0_2 ≤ 63 ∧ 0 ≤ a0_4 ∧ a0_4 ≤ 16 ∧ a0_5.size ≤ 400 then some (strOfNums (encB ⟨a0_0, a0_1, a0_2, a0_3, a0_4, a0_5⟩), e0) else none) else some (⟨#[]⟩, e0)
theorem segment_Encode.calls (a0_0 : Int) (a0_1 : Int) (a0_2 : Int) (a0_3 : Bool) (a0_4 : Int) (a0_5 : ByteArray) (r1 : ByteArray) (r2 : Int) (w : World) (hG : Glob w) (h : segment_Encode.f a0_0 a0_1 a0_2 a0_3 a0_4 a0_5 = some (r1, r2)) :
  Calls Tryd.prog 13 #[.agg #[.int .i64 a0_0, .int .i64 a0_1, .int .i64 a0_2, .bool a0_3, .int .i64 a0_4, .string a0_5]] w fun e w' => e = .returned (.tuple #[.string r1, .int .i64 r2]) ∧ Below w.heap.size w w' := by
 unfold segment_Encode.f at h
 obtain ⟨e0, hc, h⟩ := Option.bind_eq_some_iff.mp h
 by_cases z : e0 = 0
 ·rw [if_pos z] at h
  by_cases q : 0 ≤ a0_0 ∧ a0_0 ≤ 3 ∧ 0 ≤ a0_1 ∧ a0_1 ≤ 255 ∧ -1 ≤ a0_2 ∧ a0_2 ≤ 63 ∧ 0 ≤ a0_4 ∧ a0_4 ≤ 16 ∧ a0_5.size ≤ 400
  ·rw [if_pos q] at h
   obtain ⟨q0, q1, q2, q3, q4, q5, q6, q7, q8⟩ := q
   injection h with h
   injection h with h1 h2
   refine (encode_calls 40 ⟨a0_0, a0_1, a0_2, a0_3, a0_4, a0_5⟩ e0 w hG hc (fun _ => ⟨q0, q1, q2, q3, q4, q5, q6, q7, q8⟩)).mono ?_
   rintro e w' ⟨he, hb⟩
   rw [if_pos z, h1, h2] at he
   exact ⟨he, hb⟩
  ·rw [if_neg q] at h
   cases h
 ·rw [if_neg z] at h
  injection h with h
  injection h with h1 h2
  refine (encode_calls 40 ⟨a0_0, a0_1, a0_2, a0_3, a0_4, a0_5⟩ e0 w hG hc (fun z' => absurd z' z)).mono ?_
  rintro e w' ⟨he, hb⟩
  rw [if_neg z, h1, h2] at he
  exact ⟨he, hb⟩
end Go.Proofs.YtbgabhknmpbgiaaDoor.S
end
section
namespace Go.Proofs.YtbgabhknmpbgiaaDoor.S
open Go.RowKit Go.Proofs.YtbgabhknmpbgiaaDoorW.PrintWords Go.Proofs.YtbgabhknmpbgiaaDoorW.PrintLast Go.Proofs.YtbgabhknmpbgiaaDoorW.PrintMore
set_option linter.unusedVariables false
set_option linter.unusedSimpArgs false
attribute [local go_sem] max2_int min2_int max_two min_two max_three min_three
theorem below_setRow {B g : Nat} {w W : World} (h : Below B w W) (hg : B ≤ g) (cs : Array Value) : Below B w (W.setRow g cs) :=
 ⟨h.os, h.tape, h.output, by simp; exact h.size, fun i hi => (setRow_other W g i cs (by omega)).trans (h.block i hi)⟩
def decR (n kind id number : Int) (more : Bool) (window : Int) (text : ByteArray) (en ce : Int) : S23 × Int := if en = 0 then (if n = 6 then (if mx (mx kind id) window > 1000 then (z23, 2) else if ce = 0 then (⟨kind, id, number, more, window, text⟩, 0) else (z23, ce)) else (z23, 2)) else (z23, 2)
def DecPost (w : World) (r : S23 × Int) (e : Ending) (w' : World) : Prop := e = .returned (.tuple #[.agg #[.int .i64 r.1.f0, .int .i64 r.1.f1, .int .i64 r.1.f2, .bool r.1.f3, .int .i64 r.1.f4, .string r.1.f5], .int .i64 r.2]) ∧ Below w.heap.size w w'
set_option maxHeartbeats 16000000 in
set_option maxRecDepth 100000 in
theorem decode_calls (k : Nat) (S : ByteArray) (n kind id number : Int) (more : Bool) (window : Int) (text : ByteArray) (en : Int) (s1 s2 s3 s4 s5 s6 s7 s8 : ByteArray) (p1 e1 p2 e2 p3 e3 p4 e4 p5 e5 p6 e6 p7 e7 p8 e8 : Int) (h1 : codec_Reader_List.f k S 0 0 = some (n, s1, p1, e1)) (h2 : codec_Reader_Unsigned.f k s1 p1 e1 = some (kind, s2, p2, e2)) (h3 : codec_Reader_Unsigned.f k s2 p2 e2 = some (id, s3, p3, e3)) (h4 : codec_Reader_Signed.f k s3 p3 e3 = some (number, s4, p4, e4)) (h5 : codec_Reader_Bool.f k s4 p4 e4 = some (more, s5, p5, e5)) (h6 : codec_Reader_Unsigned.f k s5 p5 e5 = some (window, s6, p6, e6)) (h7 : codec_Reader_Text.f k s6 p6 e6 = some (text, s7, p7, e7)) (h8 : codec_Reader_End.f s7 p7 e7 = some (en, s8, p8, e8)) (ce : Int) (w : World) (hG : Glob w) (hc : segment_Check.f k kind id number more window text = some ce) (hu : 0 ≤ kind ∧ 0 ≤ id ∧ 0 ≤ window) :
  Calls Tryd.prog 14 #[.string S] w fun e w' => DecPost w (decR n kind id number more window text en ce) e w' := by
 have HG := Aside0.mk hG
 have HR1 := Aside0.mk h1
 have HR2 := Aside0.mk h2
 have HR3 := Aside0.mk h3
 have HR4 := Aside0.mk h4
 have HR5 := Aside0.mk h5
 have HR6 := Aside0.mk h6
 have HR7 := Aside0.mk h7
 have HR8 := Aside0.mk h8
 have HCK := Aside0.mk hc
 have HU := Aside0.mk hu
 clear hG hc hu h1 h2 h3 h4 h5 h6 h7 h8
 by_cases q0 : en = 0
 ·have q0b : (en != 0) = false := by rw [q0]; rfl
  by_cases q1 : n = 6
  ·have q1b : (n != 6) = false := by rw [q1]; rfl
   obtain ⟨M, hM⟩ : ∃ M, (if (if kind < id then id else kind) < window then window else (if kind < id then id else kind)) = M := ⟨_, rfl⟩
   have HM := Aside0.mk (show mx (mx kind id) window = M from hM)
   by_cases q2 : M > 1000
   ·have q2b : decide (1000 < M) = true := decide_eq_true q2
    rw [show decR n kind id number more window text en ce = (z23, 2) from by unfold decR; rw [if_pos q0, if_pos q1, HM.out, if_pos q2]]
    clear q0 q1 q2
    go_enter Tryd.func14, Tryd.ntmps14
    go_wp2_with (first | ((with_reducible refine gate_dst (N := 2) rfl ?_); refine box_event ?hg (N := 2) ?hd (cs := #[.int .i64 0, .int .i64 0, .int .i64 0, .bool false, .int .i64 0, .string ⟨#[]⟩]) (t := 23) ?hr ?_; (case hd => rfl); (case hg => rfl); (case hr => first | (go_simp; done) | (go_simp; rfl)); intro gq hgq wa hbox hb; have HQa := Aside0.mk hbox; have HBa := Aside0.mk hb; have HQW := Aside0.mk (show w.heap.size ≤ gq by rw [hgq]; exact Nat.le_refl _); have HGa := Aside0.mk (Glob.below HG.out hb); clear hb hbox hgq) | (go_at_call 45; (with_reducible refine (codec_NewReader.calls S S 0 0 wa wa (Glob.below HG.out HBa.out) (Below.refl _ _) rfl).mono ?_); rintro e wb ⟨gr, rfl, hi, hb, hb2⟩; have HI0 := Aside0.mk hi; have HB0 := Aside0.mk hb; clear hi hb hb2) | (go_at_call 46; (with_reducible refine (codec_Reader_List.calls k gr S 0 0 n s1 p1 e1 wa _ HGa.out HI0.out HB0.out HR1.out).mono ?_); rintro e w1 ⟨rfl, hi, hb, hk⟩; have HI1 := Aside0.mk hi; have HB1 := Aside0.mk hb; clear hi hb hk) | (go_at_call 47; (with_reducible refine (codec_Reader_Unsigned.calls k gr s1 p1 e1 kind s2 p2 e2 wa _ HGa.out HI1.out HB1.out HR2.out).mono ?_); rintro e w2 ⟨rfl, hi, hb, hk⟩; have HI2 := Aside0.mk hi; have HB2 := Aside0.mk hb; clear hi hb hk) | (go_at_call 47; (with_reducible refine (codec_Reader_Unsigned.calls k gr s2 p2 e2 id s3 p3 e3 wa _ HGa.out HI2.out HB2.out HR3.out).mono ?_); rintro e w3 ⟨rfl, hi, hb, hk⟩; have HI3 := Aside0.mk hi; have HB3 := Aside0.mk hb; clear hi hb hk) | (go_at_call 48; (with_reducible refine (codec_Reader_Signed.calls k gr s3 p3 e3 number s4 p4 e4 wa _ HGa.out HI3.out HB3.out HR4.out).mono ?_); rintro e w4 ⟨rfl, hi, hb, hk⟩; have HI4 := Aside0.mk hi; have HB4 := Aside0.mk hb; clear hi hb hk) | (go_at_call 49; (with_reducible refine (codec_Reader_Bool.calls k gr s4 p4 e4 more s5 p5 e5 wa _ HGa.out HI4.out HB4.out HR5.out).mono ?_); rintro e w5 ⟨rfl, hi, hb, hk⟩; have HI5 := Aside0.mk hi; have HB5 := Aside0.mk hb; clear hi hb hk) | (go_at_call 47; (with_reducible refine (codec_Reader_Unsigned.calls k gr s5 p5 e5 window s6 p6 e6 wa _ HGa.out HI5.out HB5.out HR6.out).mono ?_); rintro e w6 ⟨rfl, hi, hb, hk⟩; have HI6 := Aside0.mk hi; have HB6 := Aside0.mk hb; clear hi hb hk) | (go_at_call 50; (with_reducible refine (codec_Reader_Text.calls k gr s6 p6 e6 text s7 p7 e7 wa _ HGa.out HI6.out HB6.out HR7.out).mono ?_); rintro e w7 ⟨rfl, hi, hb, hk⟩; have HI7 := Aside0.mk hi; have HB7 := Aside0.mk hb; clear hi hb hk) | (go_at_call 51; (with_reducible refine (codec_Reader_End.calls gr s7 p7 e7 en s8 p8 e8 wa _ HGa.out HI7.out HB7.out HR8.out).mono ?_); rintro e w8 ⟨rfl, hi, hb, hk⟩; have HI8 := Aside0.mk hi; have HB8 := Aside0.mk hb; clear hi hb hk) | (refine wpList_store_row rfl 23 (.tmp 2) (.tmp 44) rfl gq #[.int .i64 0, .int .i64 0, .int .i64 0, .bool false, .int .i64 0, .string ⟨#[]⟩] rfl rfl 23 #[.int .i64 0, .int .i64 0, .int .i64 0, .bool false, .int .i64 0, .string ⟨#[]⟩] (blk_below HQa.out HB8.out) (by kernel_rfl) rfl (by simp [Value.oneCell']) ?_))
    refine bodyPost_ret (results_ct rfl _ _ gq 23 #[.int .i64 0, .int .i64 0, .int .i64 0, .bool false, .int .i64 0, .string ⟨#[]⟩] (0, 0) _ rfl (setRow_heap _ _ _ _ _ _ (blk_below HQa.out HB8.out)) Tryd.underlying23 rfl (by kernel_rfl)) rfl ⟨rfl, ?_⟩
    exact below_setRow (below_step HBa.out HB8.out) HQW.out _
   ·have q2b : decide (1000 < M) = false := decide_eq_false q2
    have hsm : kind ≤ 1000 ∧ id ≤ 1000 ∧ window ≤ 1000 := by
     have h2 := hM
     split at h2 <;> split at h2 <;> omega
    have wk : wrap64 kind = kind := by have := HU.out; unfold wrap64; omega
    have wi : wrap64 id = id := by have := HU.out; unfold wrap64; omega
    have ww : wrap64 window = window := by have := HU.out; unfold wrap64; omega
    by_cases q3 : ce = 0
    ·have q3b : (ce != 0) = false := by rw [q3]; rfl
     rw [show decR n kind id number more window text en ce = (⟨kind, id, number, more, window, text⟩, 0) from by unfold decR; rw [if_pos q0, if_pos q1, HM.out, if_neg q2, if_pos q3]]
     clear q0 q1 q2 q3 hsm
     go_enter Tryd.func14, Tryd.ntmps14
     go_wp2_with (first | ((with_reducible refine gate_dst (N := 2) rfl ?_); refine box_event ?hg (N := 2) ?hd (cs := #[.int .i64 0, .int .i64 0, .int .i64 0, .bool false, .int .i64 0, .string ⟨#[]⟩]) (t := 23) ?hr ?_; (case hd => rfl); (case hg => rfl); (case hr => first | (go_simp; done) | (go_simp; rfl)); intro gq hgq wa hbox hb; have HQa := Aside0.mk hbox; have HBa := Aside0.mk hb; have HQW := Aside0.mk (show w.heap.size ≤ gq by rw [hgq]; exact Nat.le_refl _); have HGa := Aside0.mk (Glob.below HG.out hb); clear hb hbox hgq) | (go_at_call 45; (with_reducible refine (codec_NewReader.calls S S 0 0 wa wa (Glob.below HG.out HBa.out) (Below.refl _ _) rfl).mono ?_); rintro e wb ⟨gr, rfl, hi, hb, hb2⟩; have HI0 := Aside0.mk hi; have HB0 := Aside0.mk hb; clear hi hb hb2) | (go_at_call 46; (with_reducible refine (codec_Reader_List.calls k gr S 0 0 n s1 p1 e1 wa _ HGa.out HI0.out HB0.out HR1.out).mono ?_); rintro e w1 ⟨rfl, hi, hb, hk⟩; have HI1 := Aside0.mk hi; have HB1 := Aside0.mk hb; clear hi hb hk) | (go_at_call 47; (with_reducible refine (codec_Reader_Unsigned.calls k gr s1 p1 e1 kind s2 p2 e2 wa _ HGa.out HI1.out HB1.out HR2.out).mono ?_); rintro e w2 ⟨rfl, hi, hb, hk⟩; have HI2 := Aside0.mk hi; have HB2 := Aside0.mk hb; clear hi hb hk) | (go_at_call 47; (with_reducible refine (codec_Reader_Unsigned.calls k gr s2 p2 e2 id s3 p3 e3 wa _ HGa.out HI2.out HB2.out HR3.out).mono ?_); rintro e w3 ⟨rfl, hi, hb, hk⟩; have HI3 := Aside0.mk hi; have HB3 := Aside0.mk hb; clear hi hb hk) | (go_at_call 48; (with_reducible refine (codec_Reader_Signed.calls k gr s3 p3 e3 number s4 p4 e4 wa _ HGa.out HI3.out HB3.out HR4.out).mono ?_); rintro e w4 ⟨rfl, hi, hb, hk⟩; have HI4 := Aside0.mk hi; have HB4 := Aside0.mk hb; clear hi hb hk) | (go_at_call 49; (with_reducible refine (codec_Reader_Bool.calls k gr s4 p4 e4 more s5 p5 e5 wa _ HGa.out HI4.out HB4.out HR5.out).mono ?_); rintro e w5 ⟨rfl, hi, hb, hk⟩; have HI5 := Aside0.mk hi; have HB5 := Aside0.mk hb; clear hi hb hk) | (go_at_call 47; (with_reducible refine (codec_Reader_Unsigned.calls k gr s5 p5 e5 window s6 p6 e6 wa _ HGa.out HI5.out HB5.out HR6.out).mono ?_); rintro e w6 ⟨rfl, hi, hb, hk⟩; have HI6 := Aside0.mk hi; have HB6 := Aside0.mk hb; clear hi hb hk) | (go_at_call 50; (with_reducible refine (codec_Reader_Text.calls k gr s6 p6 e6 text s7 p7 e7 wa _ HGa.out HI6.out HB6.out HR7.out).mono ?_); rintro e w7 ⟨rfl, hi, hb, hk⟩; have HI7 := Aside0.mk hi; have HB7 := Aside0.mk hb; clear hi hb hk) | (go_at_call 51; (with_reducible refine (codec_Reader_End.calls gr s7 p7 e7 en s8 p8 e8 wa _ HGa.out HI7.out HB7.out HR8.out).mono ?_); rintro e w8 ⟨rfl, hi, hb, hk⟩; have HI8 := Aside0.mk hi; have HB8 := Aside0.mk hb; clear hi hb hk) | ((with_reducible refine gate_dst (N := 12) rfl ?_); refine box_event ?hg (N := 12) ?hd (cs := #[.int .i64 0, .int .i64 0, .int .i64 0, .bool false, .int .i64 0, .string ⟨#[]⟩]) (t := 23) ?hr ?_; (case hd => rfl); (case hg => rfl); (case hr => first | (go_simp; done) | (go_simp; rfl)); intro gp hgp wp hbox hb; have HPp := Aside0.mk hbox; have HQp := Aside0.mk (blk_below (blk_below HQa.out HB8.out) hb); have HBp := Aside0.mk (below_step (below_step HBa.out HB8.out) hb); have HNE := Aside0.mk (show gq ≠ gp by rw [hgp]; exact Nat.ne_of_lt (blk_lt (blk_below HQa.out HB8.out))); have HGP := Aside0.mk (show w.heap.size ≤ gp by rw [hgp]; exact (below_step HBa.out HB8.out).size); clear hb hbox hgp) | (refine wpList_store_row rfl 23 (.tmp 12) (.tmp 54) rfl gp #[.int .i64 kind, .int .i64 id, .int .i64 number, .bool more, .int .i64 window, .string text] rfl rfl 23 #[.int .i64 0, .int .i64 0, .int .i64 0, .bool false, .int .i64 0, .string ⟨#[]⟩] HPp.out (by kernel_rfl) rfl (by simp [Value.oneCell']) ?_; have HPr := Aside0.mk (setRow_heap _ _ _ #[.int .i64 kind, .int .i64 id, .int .i64 number, .bool more, .int .i64 window, .string text] _ _ HPp.out); have HQr := Aside0.mk ((setRow_other wp gp gq #[.int .i64 kind, .int .i64 id, .int .i64 number, .bool more, .int .i64 window, .string text] HNE.out).trans HQp.out); have HBr := Aside0.mk (below_setRow HBp.out HGP.out #[.int .i64 kind, .int .i64 id, .int .i64 number, .bool more, .int .i64 window, .string text]); generalize wp.setRow gp #[.int .i64 kind, .int .i64 id, .int .i64 number, .bool more, .int .i64 window, .string text] = wr at HPr HQr HBr ⊢) | (refine wpList_load_row rfl 23 (.tmp 12) rfl gp rfl 23 #[.int .i64 kind, .int .i64 id, .int .i64 number, .bool more, .int .i64 window, .string text] (0, 0) _ HPr.out Tryd.underlying23 rfl (by kernel_rfl) ?_) | (go_at_call 16; (with_reducible refine (segment_Check.calls k kind id number more window text ce _ (Glob.below HG.out HBr.out) HCK.out).mono ?_); rintro e wc ⟨rfl, hb⟩; have HPc := Aside0.mk (blk_below HPr.out hb); have HQc := Aside0.mk (blk_below HQr.out hb); have HBc := Aside0.mk (below_step HBr.out hb); clear hb) | (refine wpList_store_row rfl 23 (.tmp 2) (.tmp 59) rfl gq #[.int .i64 0, .int .i64 0, .int .i64 0, .bool false, .int .i64 0, .string ⟨#[]⟩] rfl rfl 23 #[.int .i64 0, .int .i64 0, .int .i64 0, .bool false, .int .i64 0, .string ⟨#[]⟩] HQc.out (by kernel_rfl) rfl (by simp [Value.oneCell']) ?_) | (refine wpList_load_row rfl 23 (.tmp 12) rfl gp rfl 23 #[.int .i64 kind, .int .i64 id, .int .i64 number, .bool more, .int .i64 window, .string text] (0, 0) _ HPc.out Tryd.underlying23 rfl (by kernel_rfl) ?_) | (refine wpList_store_row rfl 23 (.tmp 2) (.tmp 61) rfl gq #[.int .i64 kind, .int .i64 id, .int .i64 number, .bool more, .int .i64 window, .string text] rfl rfl 23 #[.int .i64 0, .int .i64 0, .int .i64 0, .bool false, .int .i64 0, .string ⟨#[]⟩] HQc.out (by kernel_rfl) rfl (by simp [Value.oneCell']) ?_))
     refine bodyPost_ret (results_ct rfl _ _ gq 23 #[.int .i64 kind, .int .i64 id, .int .i64 number, .bool more, .int .i64 window, .string text] (0, 0) _ rfl (setRow_heap _ _ _ _ _ _ HQc.out) Tryd.underlying23 rfl (by kernel_rfl)) rfl ⟨rfl, ?_⟩
     exact below_setRow HBc.out HQW.out _
    ·have q3b : (ce != 0) = true := bne_iff_ne.mpr q3
     rw [show decR n kind id number more window text en ce = (z23, ce) from by unfold decR; rw [if_pos q0, if_pos q1, HM.out, if_neg q2, if_neg q3]]
     clear q0 q1 q2 q3 hsm
     go_enter Tryd.func14, Tryd.ntmps14
     go_wp2_with (first | ((with_reducible refine gate_dst (N := 2) rfl ?_); refine box_event ?hg (N := 2) ?hd (cs := #[.int .i64 0, .int .i64 0, .int .i64 0, .bool false, .int .i64 0, .string ⟨#[]⟩]) (t := 23) ?hr ?_; (case hd => rfl); (case hg => rfl); (case hr => first | (go_simp; done) | (go_simp; rfl)); intro gq hgq wa hbox hb; have HQa := Aside0.mk hbox; have HBa := Aside0.mk hb; have HQW := Aside0.mk (show w.heap.size ≤ gq by rw [hgq]; exact Nat.le_refl _); have HGa := Aside0.mk (Glob.below HG.out hb); clear hb hbox hgq) | (go_at_call 45; (with_reducible refine (codec_NewReader.calls S S 0 0 wa wa (Glob.below HG.out HBa.out) (Below.refl _ _) rfl).mono ?_); rintro e wb ⟨gr, rfl, hi, hb, hb2⟩; have HI0 := Aside0.mk hi; have HB0 := Aside0.mk hb; clear hi hb hb2) | (go_at_call 46; (with_reducible refine (codec_Reader_List.calls k gr S 0 0 n s1 p1 e1 wa _ HGa.out HI0.out HB0.out HR1.out).mono ?_); rintro e w1 ⟨rfl, hi, hb, hk⟩; have HI1 := Aside0.mk hi; have HB1 := Aside0.mk hb; clear hi hb hk) | (go_at_call 47; (with_reducible refine (codec_Reader_Unsigned.calls k gr s1 p1 e1 kind s2 p2 e2 wa _ HGa.out HI1.out HB1.out HR2.out).mono ?_); rintro e w2 ⟨rfl, hi, hb, hk⟩; have HI2 := Aside0.mk hi; have HB2 := Aside0.mk hb; clear hi hb hk) | (go_at_call 47; (with_reducible refine (codec_Reader_Unsigned.calls k gr s2 p2 e2 id s3 p3 e3 wa _ HGa.out HI2.out HB2.out HR3.out).mono ?_); rintro e w3 ⟨rfl, hi, hb, hk⟩; have HI3 := Aside0.mk hi; have HB3 := Aside0.mk hb; clear hi hb hk) | (go_at_call 48; (with_reducible refine (codec_Reader_Signed.calls k gr s3 p3 e3 number s4 p4 e4 wa _ HGa.out HI3.out HB3.out HR4.out).mono ?_); rintro e w4 ⟨rfl, hi, hb, hk⟩; have HI4 := Aside0.mk hi; have HB4 := Aside0.mk hb; clear hi hb hk) | (go_at_call 49; (with_reducible refine (codec_Reader_Bool.calls k gr s4 p4 e4 more s5 p5 e5 wa _ HGa.out HI4.out HB4.out HR5.out).mono ?_); rintro e w5 ⟨rfl, hi, hb, hk⟩; have HI5 := Aside0.mk hi; have HB5 := Aside0.mk hb; clear hi hb hk) | (go_at_call 47; (with_reducible refine (codec_Reader_Unsigned.calls k gr s5 p5 e5 window s6 p6 e6 wa _ HGa.out HI5.out HB5.out HR6.out).mono ?_); rintro e w6 ⟨rfl, hi, hb, hk⟩; have HI6 := Aside0.mk hi; have HB6 := Aside0.mk hb; clear hi hb hk) | (go_at_call 50; (with_reducible refine (codec_Reader_Text.calls k gr s6 p6 e6 text s7 p7 e7 wa _ HGa.out HI6.out HB6.out HR7.out).mono ?_); rintro e w7 ⟨rfl, hi, hb, hk⟩; have HI7 := Aside0.mk hi; have HB7 := Aside0.mk hb; clear hi hb hk) | (go_at_call 51; (with_reducible refine (codec_Reader_End.calls gr s7 p7 e7 en s8 p8 e8 wa _ HGa.out HI7.out HB7.out HR8.out).mono ?_); rintro e w8 ⟨rfl, hi, hb, hk⟩; have HI8 := Aside0.mk hi; have HB8 := Aside0.mk hb; clear hi hb hk) | ((with_reducible refine gate_dst (N := 12) rfl ?_); refine box_event ?hg (N := 12) ?hd (cs := #[.int .i64 0, .int .i64 0, .int .i64 0, .bool false, .int .i64 0, .string ⟨#[]⟩]) (t := 23) ?hr ?_; (case hd => rfl); (case hg => rfl); (case hr => first | (go_simp; done) | (go_simp; rfl)); intro gp hgp wp hbox hb; have HPp := Aside0.mk hbox; have HQp := Aside0.mk (blk_below (blk_below HQa.out HB8.out) hb); have HBp := Aside0.mk (below_step (below_step HBa.out HB8.out) hb); have HNE := Aside0.mk (show gq ≠ gp by rw [hgp]; exact Nat.ne_of_lt (blk_lt (blk_below HQa.out HB8.out))); have HGP := Aside0.mk (show w.heap.size ≤ gp by rw [hgp]; exact (below_step HBa.out HB8.out).size); clear hb hbox hgp) | (refine wpList_store_row rfl 23 (.tmp 12) (.tmp 54) rfl gp #[.int .i64 kind, .int .i64 id, .int .i64 number, .bool more, .int .i64 window, .string text] rfl rfl 23 #[.int .i64 0, .int .i64 0, .int .i64 0, .bool false, .int .i64 0, .string ⟨#[]⟩] HPp.out (by kernel_rfl) rfl (by simp [Value.oneCell']) ?_; have HPr := Aside0.mk (setRow_heap _ _ _ #[.int .i64 kind, .int .i64 id, .int .i64 number, .bool more, .int .i64 window, .string text] _ _ HPp.out); have HQr := Aside0.mk ((setRow_other wp gp gq #[.int .i64 kind, .int .i64 id, .int .i64 number, .bool more, .int .i64 window, .string text] HNE.out).trans HQp.out); have HBr := Aside0.mk (below_setRow HBp.out HGP.out #[.int .i64 kind, .int .i64 id, .int .i64 number, .bool more, .int .i64 window, .string text]); generalize wp.setRow gp #[.int .i64 kind, .int .i64 id, .int .i64 number, .bool more, .int .i64 window, .string text] = wr at HPr HQr HBr ⊢) | (refine wpList_load_row rfl 23 (.tmp 12) rfl gp rfl 23 #[.int .i64 kind, .int .i64 id, .int .i64 number, .bool more, .int .i64 window, .string text] (0, 0) _ HPr.out Tryd.underlying23 rfl (by kernel_rfl) ?_) | (go_at_call 16; (with_reducible refine (segment_Check.calls k kind id number more window text ce _ (Glob.below HG.out HBr.out) HCK.out).mono ?_); rintro e wc ⟨rfl, hb⟩; have HPc := Aside0.mk (blk_below HPr.out hb); have HQc := Aside0.mk (blk_below HQr.out hb); have HBc := Aside0.mk (below_step HBr.out hb); clear hb) | (refine wpList_store_row rfl 23 (.tmp 2) (.tmp 59) rfl gq #[.int .i64 0, .int .i64 0, .int .i64 0, .bool false, .int .i64 0, .string ⟨#[]⟩] rfl rfl 23 #[.int .i64 0, .int .i64 0, .int .i64 0, .bool false, .int .i64 0, .string ⟨#[]⟩] HQc.out (by kernel_rfl) rfl (by simp [Value.oneCell']) ?_) | (refine wpList_load_row rfl 23 (.tmp 12) rfl gp rfl 23 #[.int .i64 kind, .int .i64 id, .int .i64 number, .bool more, .int .i64 window, .string text] (0, 0) _ HPc.out Tryd.underlying23 rfl (by kernel_rfl) ?_) | (refine wpList_store_row rfl 23 (.tmp 2) (.tmp 61) rfl gq #[.int .i64 kind, .int .i64 id, .int .i64 number, .bool more, .int .i64 window, .string text] rfl rfl 23 #[.int .i64 0, .int .i64 0, .int .i64 0, .bool false, .int .i64 0, .string ⟨#[]⟩] HQc.out (by kernel_rfl) rfl (by simp [Value.oneCell']) ?_))
     refine bodyPost_ret (results_ct rfl _ _ gq 23 #[.int .i64 0, .int .i64 0, .int .i64 0, .bool false, .int .i64 0, .string ⟨#[]⟩] (0, 0) _ rfl (setRow_heap _ _ _ _ _ _ HQc.out) Tryd.underlying23 rfl (by kernel_rfl)) rfl ⟨rfl, ?_⟩
     exact below_setRow HBc.out HQW.out _
  ·have q1b : (n != 6) = true := bne_iff_ne.mpr q1
   rw [show decR n kind id number more window text en ce = (z23, 2) from by unfold decR; rw [if_pos q0, if_neg q1]]
   clear q0 q1
   go_enter Tryd.func14, Tryd.ntmps14
   go_wp2_with (first | ((with_reducible refine gate_dst (N := 2) rfl ?_); refine box_event ?hg (N := 2) ?hd (cs := #[.int .i64 0, .int .i64 0, .int .i64 0, .bool false, .int .i64 0, .string ⟨#[]⟩]) (t := 23) ?hr ?_; (case hd => rfl); (case hg => rfl); (case hr => first | (go_simp; done) | (go_simp; rfl)); intro gq hgq wa hbox hb; have HQa := Aside0.mk hbox; have HBa := Aside0.mk hb; have HQW := Aside0.mk (show w.heap.size ≤ gq by rw [hgq]; exact Nat.le_refl _); have HGa := Aside0.mk (Glob.below HG.out hb); clear hb hbox hgq) | (go_at_call 45; (with_reducible refine (codec_NewReader.calls S S 0 0 wa wa (Glob.below HG.out HBa.out) (Below.refl _ _) rfl).mono ?_); rintro e wb ⟨gr, rfl, hi, hb, hb2⟩; have HI0 := Aside0.mk hi; have HB0 := Aside0.mk hb; clear hi hb hb2) | (go_at_call 46; (with_reducible refine (codec_Reader_List.calls k gr S 0 0 n s1 p1 e1 wa _ HGa.out HI0.out HB0.out HR1.out).mono ?_); rintro e w1 ⟨rfl, hi, hb, hk⟩; have HI1 := Aside0.mk hi; have HB1 := Aside0.mk hb; clear hi hb hk) | (go_at_call 47; (with_reducible refine (codec_Reader_Unsigned.calls k gr s1 p1 e1 kind s2 p2 e2 wa _ HGa.out HI1.out HB1.out HR2.out).mono ?_); rintro e w2 ⟨rfl, hi, hb, hk⟩; have HI2 := Aside0.mk hi; have HB2 := Aside0.mk hb; clear hi hb hk) | (go_at_call 47; (with_reducible refine (codec_Reader_Unsigned.calls k gr s2 p2 e2 id s3 p3 e3 wa _ HGa.out HI2.out HB2.out HR3.out).mono ?_); rintro e w3 ⟨rfl, hi, hb, hk⟩; have HI3 := Aside0.mk hi; have HB3 := Aside0.mk hb; clear hi hb hk) | (go_at_call 48; (with_reducible refine (codec_Reader_Signed.calls k gr s3 p3 e3 number s4 p4 e4 wa _ HGa.out HI3.out HB3.out HR4.out).mono ?_); rintro e w4 ⟨rfl, hi, hb, hk⟩; have HI4 := Aside0.mk hi; have HB4 := Aside0.mk hb; clear hi hb hk) | (go_at_call 49; (with_reducible refine (codec_Reader_Bool.calls k gr s4 p4 e4 more s5 p5 e5 wa _ HGa.out HI4.out HB4.out HR5.out).mono ?_); rintro e w5 ⟨rfl, hi, hb, hk⟩; have HI5 := Aside0.mk hi; have HB5 := Aside0.mk hb; clear hi hb hk) | (go_at_call 47; (with_reducible refine (codec_Reader_Unsigned.calls k gr s5 p5 e5 window s6 p6 e6 wa _ HGa.out HI5.out HB5.out HR6.out).mono ?_); rintro e w6 ⟨rfl, hi, hb, hk⟩; have HI6 := Aside0.mk hi; have HB6 := Aside0.mk hb; clear hi hb hk) | (go_at_call 50; (with_reducible refine (codec_Reader_Text.calls k gr s6 p6 e6 text s7 p7 e7 wa _ HGa.out HI6.out HB6.out HR7.out).mono ?_); rintro e w7 ⟨rfl, hi, hb, hk⟩; have HI7 := Aside0.mk hi; have HB7 := Aside0.mk hb; clear hi hb hk) | (go_at_call 51; (with_reducible refine (codec_Reader_End.calls gr s7 p7 e7 en s8 p8 e8 wa _ HGa.out HI7.out HB7.out HR8.out).mono ?_); rintro e w8 ⟨rfl, hi, hb, hk⟩; have HI8 := Aside0.mk hi; have HB8 := Aside0.mk hb; clear hi hb hk) | (refine wpList_store_row rfl 23 (.tmp 2) (.tmp 44) rfl gq #[.int .i64 0, .int .i64 0, .int .i64 0, .bool false, .int .i64 0, .string ⟨#[]⟩] rfl rfl 23 #[.int .i64 0, .int .i64 0, .int .i64 0, .bool false, .int .i64 0, .string ⟨#[]⟩] (blk_below HQa.out HB8.out) (by kernel_rfl) rfl (by simp [Value.oneCell']) ?_))
   refine bodyPost_ret (results_ct rfl _ _ gq 23 #[.int .i64 0, .int .i64 0, .int .i64 0, .bool false, .int .i64 0, .string ⟨#[]⟩] (0, 0) _ rfl (setRow_heap _ _ _ _ _ _ (blk_below HQa.out HB8.out)) Tryd.underlying23 rfl (by kernel_rfl)) rfl ⟨rfl, ?_⟩
   exact below_setRow (below_step HBa.out HB8.out) HQW.out _
 ·have q0b : (en != 0) = true := bne_iff_ne.mpr q0
  rw [show decR n kind id number more window text en ce = (z23, 2) from by unfold decR; rw [if_neg q0]]
  clear q0
  go_enter Tryd.func14, Tryd.ntmps14
  go_wp2_with (first | ((with_reducible refine gate_dst (N := 2) rfl ?_); refine box_event ?hg (N := 2) ?hd (cs := #[.int .i64 0, .int .i64 0, .int .i64 0, .bool false, .int .i64 0, .string ⟨#[]⟩]) (t := 23) ?hr ?_; (case hd => rfl); (case hg => rfl); (case hr => first | (go_simp; done) | (go_simp; rfl)); intro gq hgq wa hbox hb; have HQa := Aside0.mk hbox; have HBa := Aside0.mk hb; have HQW := Aside0.mk (show w.heap.size ≤ gq by rw [hgq]; exact Nat.le_refl _); have HGa := Aside0.mk (Glob.below HG.out hb); clear hb hbox hgq) | (go_at_call 45; (with_reducible refine (codec_NewReader.calls S S 0 0 wa wa (Glob.below HG.out HBa.out) (Below.refl _ _) rfl).mono ?_); rintro e wb ⟨gr, rfl, hi, hb, hb2⟩; have HI0 := Aside0.mk hi; have HB0 := Aside0.mk hb; clear hi hb hb2) | (go_at_call 46; (with_reducible refine (codec_Reader_List.calls k gr S 0 0 n s1 p1 e1 wa _ HGa.out HI0.out HB0.out HR1.out).mono ?_); rintro e w1 ⟨rfl, hi, hb, hk⟩; have HI1 := Aside0.mk hi; have HB1 := Aside0.mk hb; clear hi hb hk) | (go_at_call 47; (with_reducible refine (codec_Reader_Unsigned.calls k gr s1 p1 e1 kind s2 p2 e2 wa _ HGa.out HI1.out HB1.out HR2.out).mono ?_); rintro e w2 ⟨rfl, hi, hb, hk⟩; have HI2 := Aside0.mk hi; have HB2 := Aside0.mk hb; clear hi hb hk) | (go_at_call 47; (with_reducible refine (codec_Reader_Unsigned.calls k gr s2 p2 e2 id s3 p3 e3 wa _ HGa.out HI2.out HB2.out HR3.out).mono ?_); rintro e w3 ⟨rfl, hi, hb, hk⟩; have HI3 := Aside0.mk hi; have HB3 := Aside0.mk hb; clear hi hb hk) | (go_at_call 48; (with_reducible refine (codec_Reader_Signed.calls k gr s3 p3 e3 number s4 p4 e4 wa _ HGa.out HI3.out HB3.out HR4.out).mono ?_); rintro e w4 ⟨rfl, hi, hb, hk⟩; have HI4 := Aside0.mk hi; have HB4 := Aside0.mk hb; clear hi hb hk) | (go_at_call 49; (with_reducible refine (codec_Reader_Bool.calls k gr s4 p4 e4 more s5 p5 e5 wa _ HGa.out HI4.out HB4.out HR5.out).mono ?_); rintro e w5 ⟨rfl, hi, hb, hk⟩; have HI5 := Aside0.mk hi; have HB5 := Aside0.mk hb; clear hi hb hk) | (go_at_call 47; (with_reducible refine (codec_Reader_Unsigned.calls k gr s5 p5 e5 window s6 p6 e6 wa _ HGa.out HI5.out HB5.out HR6.out).mono ?_); rintro e w6 ⟨rfl, hi, hb, hk⟩; have HI6 := Aside0.mk hi; have HB6 := Aside0.mk hb; clear hi hb hk) | (go_at_call 50; (with_reducible refine (codec_Reader_Text.calls k gr s6 p6 e6 text s7 p7 e7 wa _ HGa.out HI6.out HB6.out HR7.out).mono ?_); rintro e w7 ⟨rfl, hi, hb, hk⟩; have HI7 := Aside0.mk hi; have HB7 := Aside0.mk hb; clear hi hb hk) | (go_at_call 51; (with_reducible refine (codec_Reader_End.calls gr s7 p7 e7 en s8 p8 e8 wa _ HGa.out HI7.out HB7.out HR8.out).mono ?_); rintro e w8 ⟨rfl, hi, hb, hk⟩; have HI8 := Aside0.mk hi; have HB8 := Aside0.mk hb; clear hi hb hk) | (refine wpList_store_row rfl 23 (.tmp 2) (.tmp 44) rfl gq #[.int .i64 0, .int .i64 0, .int .i64 0, .bool false, .int .i64 0, .string ⟨#[]⟩] rfl rfl 23 #[.int .i64 0, .int .i64 0, .int .i64 0, .bool false, .int .i64 0, .string ⟨#[]⟩] (blk_below HQa.out HB8.out) (by kernel_rfl) rfl (by simp [Value.oneCell']) ?_))
  refine bodyPost_ret (results_ct rfl _ _ gq 23 #[.int .i64 0, .int .i64 0, .int .i64 0, .bool false, .int .i64 0, .string ⟨#[]⟩] (0, 0) _ rfl (setRow_heap _ _ _ _ _ _ (blk_below HQa.out HB8.out)) Tryd.underlying23 rfl (by kernel_rfl)) rfl ⟨rfl, ?_⟩
  exact below_setRow (below_step HBa.out HB8.out) HQW.out _
end Go.Proofs.YtbgabhknmpbgiaaDoor.S
end
section
namespace Go.Proofs.YtbgabhknmpbgiaaDoor.S
open Go.RowKit Go.Proofs.YtbgabhknmpbgiaaDoor.Pure Go.Proofs.YtbgabhknmpbgiaaDoorW.PrintWords Go.Proofs.YtbgabhknmpbgiaaDoorW.PrintLast Go.Proofs.YtbgabhknmpbgiaaDoorW.PrintMore
set_option linter.unusedVariables false
def segment_Decode.f (a0 : ByteArray) : Option (Int × Int × Int × Bool × Int × ByteArray × Int) :=
 (codec_Reader_List.f 40 a0 0 0).bind fun x1 => (codec_Reader_Unsigned.f 40 x1.2.1 x1.2.2.1 x1.2.2.2).bind fun x2 => (codec_Reader_Unsigned.f 40 x2.2.1 x2.2.2.1 x2.2.2.2).bind fun x3 => (codec_Reader_Signed.f 40 x3.2.1 x3.2.2.1 x3.2.2.2).bind fun x4 => (codec_Reader_Bool.f 40 x4.2.1 x4.2.2.1 x4.2.2.2).bind fun x5 => (codec_Reader_Unsigned.f 40 x5.2.1 x5.2.2.1 x5.2.2.2).bind fun x6 => (codec_Reader_Text.f 40 x6.2.1 x6.2.2.1 x6.2.2.2).bind fun x7 => (codec_Reader_End.f x7.2.1 x7.2.2.1 x7.2.2.2).bind fun x8 => (segment_Check.f 40 x2.1 x3.1 x4.1 x5.1 x6.1 x7.1).bind fun ce => if 0 ≤ x2.1 ∧ 0 ≤ x3.1 ∧ 0 ≤ x6.1 then some ((decR x1.1 x2.1 x3.1 x4.1 x5.1 x6.1 x7.1 x8.1 ce).1.f0, (decR x1.1 x2.1 x3.1 x4.1 x5.1 x6.1 x7.1 x8.1 ce).1.f1, (decR x1.1 x2.1 x3.1 x4.1 x5.1 x6.1 x7.1 x8.1 ce).1.f2, (decR x1.1 x2.1 x3.1 x4.1 x5.1 x6.1 x7.1 x8.1 ce).1.f3, (decR x1.1 x2.1 x3.1 x4.1 x5.1 x6.1 x7.1 x8.1 ce).1.f4, (decR x1.1 x2.1 x3.1 x4.1 x5.1 x6.1 x7.1 x8.1 ce).1.f5, (decR x1.1 x2.1 x3.1 x4.1 x5.1 x6.1 x7.1 x8.1 ce).2) else none
theorem segment_Decode.calls (a0 : ByteArray) (r1 : Int) (r2 : Int) (r3 : Int) (r4 : Bool) (r5 : Int) (r6 : ByteArray) (r7 : Int) (w : World) (hG : Glob w) (h : segment_Decode.f a0 = some (r1, r2, r3, r4, r5, r6, r7)) :
  Calls Tryd.prog 14 #[.string a0] w fun e w' => e = .returned (.tuple #[.agg #[.int .i64 r1, .int .i64 r2, .int .i64 r3, .bool r4, .int .i64 r5, .string r6], .int .i64 r7]) ∧ Below w.heap.size w w' := by
 unfold segment_Decode.f at h
 obtain ⟨⟨x1, s1, p1, e1⟩, h1, h⟩ := Option.bind_eq_some_iff.mp h
 obtain ⟨⟨x2, s2, p2, e2⟩, h2, h⟩ := Option.bind_eq_some_iff.mp h
 obtain ⟨⟨x3, s3, p3, e3⟩, h3, h⟩ := Option.bind_eq_some_iff.mp h
 obtain ⟨⟨x4, s4, p4, e4⟩, h4, h⟩ := Option.bind_eq_some_iff.mp h
 obtain ⟨⟨x5, s5, p5, e5⟩, h5, h⟩ := Option.bind_eq_some_iff.mp h
 obtain ⟨⟨x6, s6, p6, e6⟩, h6, h⟩ := Option.bind_eq_some_iff.mp h
 obtain ⟨⟨x7, s7, p7, e7⟩, h7, h⟩ := Option.bind_eq_some_iff.mp h
 obtain ⟨⟨x8, s8, p8, e8⟩, h8, h⟩ := Option.bind_eq_some_iff.mp h
 obtain ⟨ce, hc, h⟩ := Option.bind_eq_some_iff.mp h
 by_cases q : 0 ≤ x2 ∧ 0 ≤ x3 ∧ 0 ≤ x6
 ·rw [if_pos q] at h
  injection h with h
  injection h with z1 h
  injection h with z2 h
  injection h with z3 h
  injection h with z4 h
  injection h with z5 h
  injection h with z6 z7
  refine (decode_calls 40 a0 x1 x2 x3 x4 x5 x6 x7 x8 s1 s2 s3 s4 s5 s6 s7 s8 p1 e1 p2 e2 p3 e3 p4 e4 p5 e5 p6 e6 p7 e7 p8 e8 h1 h2 h3 h4 h5 h6 h7 h8 ce w hG hc q).mono ?_
  rintro e w' ⟨he, hb⟩
  rw [z1, z2, z3, z4, z5, z6, z7] at he
  exact ⟨he, hb⟩
 ·rw [if_neg q] at h
  cases h
end Go.Proofs.YtbgabhknmpbgiaaDoor.S
end
section
namespace Go.Proofs.YtbgabhknmpbgiaaDoor.S
open Go.RowKit Go.Proofs.YtbgabhknmpbgiaaDoorW.PrintWords Go.Proofs.YtbgabhknmpbgiaaDoorW.PrintLast Go.Proofs.YtbgabhknmpbgiaaDoorW.PrintMore
attribute [local go_sem] max2_int min2_int max_two min_two max_three min_three max_four min_four
set_option linter.unusedVariables false
set_option linter.unusedSimpArgs false
def plenumref49_small.f (k : Nat) (a0 : ByteArray) (a1 : Int) : Option (Int × Int × Bool) := (plenumref02_ReadUnsigned.f k a0 a1).bind fun bt197 => (if bt197.2.2 = true then (some (wrap64 (Go.bits .and .u64 bt197.1 1023), bt197.2.1, decide (bt197.1 ≤ 1000))) else (some (wrap64 (Go.bits .and .u64 bt197.1 1023), bt197.2.1, false)))
set_option maxHeartbeats 8000000 in
set_option maxRecDepth 100000 in
theorem plenumref49_small.calls (k : Nat) (a0 : ByteArray) (a1 : Int) (r1 : Int) (r2 : Int) (r3 : Bool) (w : World) (hG : Glob w) (h : plenumref49_small.f k a0 a1 = some (r1, r2, r3)) :
  Calls Tryd.prog 53 #[.string a0, .int .i64 a1] w fun e w' => e = .returned (.tuple #[.int .i64 r1, .int .i64 r2, .bool r3]) ∧ Below w.heap.size w w' := by
 have HG := Aside0.mk hG
 clear hG
 have HB := Aside0.mk (Below.refl w.heap.size w)
 have H : ((plenumref02_ReadUnsigned.f k a0 a1).bind fun bt197 => (if bt197.2.2 = true then (some (wrap64 (Go.bits .and .u64 bt197.1 1023), bt197.2.1, decide (bt197.1 ≤ 1000))) else (some (wrap64 (Go.bits .and .u64 bt197.1 1023), bt197.2.1, false)))) = some (r1, r2, r3) := h
 clear h
 replace H := Option.bind_eq_some_iff.mp H
 obtain ⟨⟨t197, t198, t199⟩, A30, H⟩ := H
 replace H : (if t199 = true then (some (wrap64 (Go.bits .and .u64 t197 1023), t198, decide (t197 ≤ 1000))) else (some (wrap64 (Go.bits .and .u64 t197 1023), t198, false))) = some (r1, r2, r3) := H
 have A3 := Aside0.mk A30
 clear A30
 by_cases c4 : t199 = true
 ·subst c4
  have H1 : (some (wrap64 (Go.bits .and .u64 t197 1023), t198, decide (t197 ≤ 1000))) = some (r1, r2, r3) := by rw [if_pos rfl] at H; exact H
  clear H
  have H := H1
  clear H1
  simp only [Option.some.injEq, Prod.mk.injEq] at H
  obtain ⟨rfl, rfl, rfl⟩ := H
  go_enter Tryd.func53, Tryd.ntmps53
  go_wp2_with (first | ((with_reducible refine gate_callee (f := 82) rfl ?_); refine goesL_ (some 13) rfl rfl Tryd.func82 (by kernel_rfl) rfl #[.string a0, .int .i64 a1] rfl (by (try simp only [List.map_toArray, List.map_cons, List.map_nil]); first | done | rfl | (simp only [List.length_drop, List.length_take]; rfl)) ?_; (with_reducible refine (plenumref02_ReadUnsigned.calls k a0 a1 t197 t198 true _ ?side99  A3.out).mono ?_); (case side99 => first | exact HG.out | exact Glob.below HG.out (by repeat (first | (with_reducible first | exact HB.out | apply below_alloc | apply pw_below_drewN | apply below_drew1) | exact HB.out))); rintro e w5 ⟨rfl, hb⟩; refine ⟨_, rfl, ?_⟩; have n0_ := Aside0.mk (below_step (by repeat (first | (with_reducible first | exact HB.out | apply below_alloc | apply pw_below_drewN | apply below_drew1) | exact HB.out)) hb); clear HB; have HB := n0_; clear n0_; (try clear hb); (try clear hb2); (try clear hk); (try clear hi)))
  go_ret3
  exact ⟨by first | rfl | (simp [errW_none, errW_some] <;> rfl) | (simp [*, errW_none, errW_some] <;> rfl), by repeat (first | (with_reducible first | exact HB.out | apply below_alloc | apply pw_below_drewN | apply below_drew1) | exact HB.out)⟩
 ·replace c4 := Bool.eq_false_iff.mpr c4
  subst c4
  have H1 : (some (wrap64 (Go.bits .and .u64 t197 1023), t198, false)) = some (r1, r2, r3) := by rw [if_neg (show ¬ (false = true) by decide)] at H; exact H
  clear H
  have H := H1
  clear H1
  simp only [Option.some.injEq, Prod.mk.injEq] at H
  obtain ⟨rfl, rfl, rfl⟩ := H
  go_enter Tryd.func53, Tryd.ntmps53
  go_wp2_with (first | ((with_reducible refine gate_callee (f := 82) rfl ?_); refine goesL_ (some 13) rfl rfl Tryd.func82 (by kernel_rfl) rfl #[.string a0, .int .i64 a1] rfl (by (try simp only [List.map_toArray, List.map_cons, List.map_nil]); first | done | rfl | (simp only [List.length_drop, List.length_take]; rfl)) ?_; (with_reducible refine (plenumref02_ReadUnsigned.calls k a0 a1 t197 t198 false _ ?side99  A3.out).mono ?_); (case side99 => first | exact HG.out | exact Glob.below HG.out (by repeat (first | (with_reducible first | exact HB.out | apply below_alloc | apply pw_below_drewN | apply below_drew1) | exact HB.out))); rintro e w6 ⟨rfl, hb⟩; refine ⟨_, rfl, ?_⟩; have n0_ := Aside0.mk (below_step (by repeat (first | (with_reducible first | exact HB.out | apply below_alloc | apply pw_below_drewN | apply below_drew1) | exact HB.out)) hb); clear HB; have HB := n0_; clear n0_; (try clear hb); (try clear hb2); (try clear hk); (try clear hi)))
  go_ret3
  exact ⟨by first | rfl | (simp [errW_none, errW_some] <;> rfl) | (simp [*, errW_none, errW_some] <;> rfl), by repeat (first | (with_reducible first | exact HB.out | apply below_alloc | apply pw_below_drewN | apply below_drew1) | exact HB.out)⟩
end Go.Proofs.YtbgabhknmpbgiaaDoor.S
end
section
namespace Go.Proofs.YtbgabhknmpbgiaaDoor.S
open Go.RowKit Go.Proofs.YtbgabhknmpbgiaaDoorW.PrintWords Go.Proofs.YtbgabhknmpbgiaaDoorW.PrintLast Go.Proofs.YtbgabhknmpbgiaaDoorW.PrintMore
attribute [local go_sem] max2_int min2_int max_two min_two max_three min_three max_four min_four
set_option linter.unusedVariables false
set_option linter.unusedSimpArgs false
def plenumref02_List.l0 : Nat → List ByteArray → ByteArray → Int → Option (ByteArray)
 | 0, _, _, _ => none
 | k + 1, x0, x3, x4 => if x4 < (x0.length : Int) then (if 0 ≤ x4 then (if x3.size + (rdOf ByteArray.empty x0 x4).size ≤ 9223372036854775807 then (plenumref02_List.l0 k x0 (x3 ++ (rdOf ByteArray.empty x0 x4)) (wrap64 (x4 + 1))) else (none)) else (none)) else (some x3)
def plenumref02_List.f (k : Nat) (l0 : List ByteArray) : Option (ByteArray) := (plenumref02_Head.f k (l0.length : Int)).bind fun t228 => (plenumref02_List.l0 k l0 t228 0)
set_option maxHeartbeats 8000000 in
set_option maxRecDepth 100000 in
theorem plenumref02_List.calls (k : Nat) (A0 : Option Addr) (c0 : Nat) (l0 : List ByteArray) (r : ByteArray) (w : World) (hG : Glob w) (hr0 : Kd.C Kd.string w A0 l0.length l0) (hc0 : l0.length ≤ c0) (h : plenumref02_List.f k l0 = some r) :
  Calls Tryd.prog 59 #[.slice A0 l0.length c0] w fun e w' => e = .returned (.string r) ∧ Below w.heap.size w w' := by
 have HG := Aside0.mk hG
 clear hG
 have HR0 := Aside0.mk hr0
 have HC0 := Aside0.mk hc0
 clear hr0 hc0
 have HB := Aside0.mk (Below.refl w.heap.size w)
 have H : ((plenumref02_Head.f k (l0.length : Int)).bind fun t228 => (plenumref02_List.l0 k l0 t228 0)) = some r := h
 clear h
 replace H := Option.bind_eq_some_iff.mp H
 obtain ⟨t228, A20, H⟩ := H
 replace H : (plenumref02_List.l0 k l0 t228 0) = some r := H
 have A2 := Aside0.mk A20
 clear A20
 have H' := Aside0.mk H
 clear H
 go_enter Tryd.func59, Tryd.ntmps59
 go_wp2_with (first | ((with_reducible refine gate_callee (f := 84) rfl ?_); refine goesL_ (some 7) rfl rfl Tryd.func84 (by kernel_rfl) rfl #[.int .i64 (l0.length : Int)] rfl (by (try simp only [List.map_toArray, List.map_cons, List.map_nil]); first | done | rfl | (simp only [List.length_drop, List.length_take]; rfl)) ?_; (with_reducible refine (plenumref02_Head.calls k (l0.length : Int) t228 _ ?side99  A2.out).mono ?_); (case side99 => first | exact HG.out | exact Glob.below HG.out (by repeat (first | (with_reducible first | exact HB.out | apply below_alloc | apply pw_below_drewN | apply below_drew1) | exact HB.out))); rintro e w3 ⟨rfl, hb⟩; refine ⟨_, rfl, ?_⟩; have n0_ := Aside0.mk (below_step (by repeat (first | (with_reducible first | exact HB.out | apply below_alloc | apply pw_below_drewN | apply below_drew1) | exact HB.out)) hb); clear HB; have HB := n0_; clear n0_; (try clear hb); (try clear hb2); (try clear hk); (try clear hi)))
 go_loopg [3, 4] k (fun kq v3 v4 w' => ∃ (x3_1 : ByteArray) (x4_1 : Int), v3 = .string x3_1 ∧ v4 = .int .i64 x4_1 ∧ Aside0 (plenumref02_List.l0 kq l0 x3_1 x4_1 = some r) ∧ Aside0 (kq ≤ k) ∧ Aside0 (Below w.heap.size w w'))
 case atStart => exact ⟨(t228), (0), (by first | rfl | (simp; done) | (simp [*]; done)), (by first | rfl | (simp; done) | (simp [*]; done)), H', ⟨Nat.le_refl _⟩, ⟨by repeat (first | (with_reducible first | exact HB.out | apply below_alloc | apply pw_below_drewN | apply below_drew1) | exact HB.out)⟩⟩
 case round =>
  clear H'
  try clear p2
  obtain ⟨x3_1, x4_1, rfl, rfl, HA, HK1, HB⟩ := hrel
  cases gk with
  | zero => exact absurd HA.out (by simp [plenumref02_List.l0])
  | succ k1 =>
   have H := HA.out
   clear HA
   simp only [plenumref02_List.l0] at H
   by_cases c4 : x4_1 < (l0.length : Int)
   ·rw [if_pos c4] at H
    have c4b0 : decide (x4_1 < (l0.length : Int)) = true := decide_eq_true c4
    clear c4
    by_cases c5 : 0 ≤ x4_1
    ·rw [if_pos c5] at H
     have c5b0 : decide (0 ≤ x4_1) = true := decide_eq_true c5
     clear c5
     by_cases c6 : x3_1.size + (rdOf ByteArray.empty l0 x4_1).size ≤ 9223372036854775807
     ·rw [if_pos c6] at H
      have c6b0 := eq_true c6
      have c6b1 : decide (x3_1.size + (rdOf ByteArray.empty l0 x4_1).size ≤ 9223372036854775807) = true := decide_eq_true c6
      try have c6b2 : (9223372036854775807 < x3_1.size + (rdOf ByteArray.empty l0 x4_1).size) = False := eq_false (Nat.not_lt.2 c6)
      have H' := Aside0.mk H
      clear H
      have p229 : 0 ≤ (x4_1 : Int) := of_decide_eq_true (by first | (with_reducible assumption) | assumption)
      have q229 : x4_1 < (l0.length : Int) := of_decide_eq_true (by first | (with_reducible assumption) | assumption)
      obtain ⟨ad229, e229, hx229_0⟩ := Kd.at_string HR0.out x4_1 p229 q229
      cases e229
      replace hx229_0 := (HB.out.cell (World.block_lt_of_cell? w _ hx229_0)).trans hx229_0
      replace p229 := eq_true p229
      replace q229 := eq_true q229
      go_wp2
      go_roundg k1
      case measure => have := HK1.out; omega
      case rel => exact ⟨(x3_1 ++ (rdOf ByteArray.empty l0 x4_1)), (wrap64 (x4_1 + 1)), (by first | rfl | (simp; done) | (simp [*]; done)), (by first | rfl | (simp; done) | (simp [*]; done)), H', ⟨by have := HK1.out; omega⟩, ⟨by repeat (first | (with_reducible first | exact HB.out | apply below_alloc | apply pw_below_drewN | apply below_drew1) | exact HB.out)⟩⟩
     ·rw [if_neg c6] at H
      exact absurd H (by simp)
    ·rw [if_neg c5] at H
     exact absurd H (by simp)
   ·rw [if_neg c4] at H
    have c4b0 : decide (x4_1 < (l0.length : Int)) = false := decide_eq_false c4
    clear c4
    obtain rfl := Option.some.inj H
    go_wp2
    go_ret
    exact ⟨by first | rfl | (simp [errW_none, errW_some] <;> rfl) | (simp [*, errW_none, errW_some] <;> rfl), by repeat (first | (with_reducible first | exact HB.out | apply below_alloc | apply pw_below_drewN | apply below_drew1) | exact HB.out)⟩
end Go.Proofs.YtbgabhknmpbgiaaDoor.S
end
section
namespace Go.Proofs.YtbgabhknmpbgiaaDoor.S
open Go.RowKit Go.Proofs.YtbgabhknmpbgiaaDoorW.PrintWords Go.Proofs.YtbgabhknmpbgiaaDoorW.PrintLast Go.Proofs.YtbgabhknmpbgiaaDoorW.PrintMore
attribute [local go_sem] max2_int min2_int max_two min_two max_three min_three max_four min_four
set_option linter.unusedVariables false
set_option linter.unusedSimpArgs false
def plenumref49_Encode.f (k : Nat) (a0_0 : Int) (a0_1 : Int) (a0_2 : Int) (a0_3 : Bool) (a0_4 : Int) (a0_5 : ByteArray) : Option (ByteArray) := (plenumref02_Unsigned.f k (IntKind.u64.wrap (a0_0))).bind fun t232 => ((plenumref02_Unsigned.f k (IntKind.u64.wrap (a0_1))).bind fun t233 => ((plenumref02_Signed.f k a0_2).bind fun t234 => ((plenumref02_Bool.f a0_3).bind fun t235 => ((plenumref02_Unsigned.f k (IntKind.u64.wrap (a0_4))).bind fun t236 => ((plenumref02_Text.f k a0_5).bind fun t237 => ((plenumref02_List.f k (([t232, t233, t234, t235, t236, t237] : List ByteArray))).bind fun t241 => (some t241)))))))
def plenumref49_Encode.T1 : Bool × List (List Nat × List Nat) := (true, [([], []), ([0], [0]), ([1], [1]), ([2], [2]), ([], []), ([4], [4]), ([5], [5]), ([6, 3], [6]), ([], []), ([8], [8]), ([9, 7], [9]), ([], []), ([11], [11]), ([12, 10], [12]), ([], []), ([14], [14]), ([15], [15]), ([16, 13], [16]), ([], []), ([18], [18]), ([19, 17], [19]), ([3, 7, 10, 13, 17, 20], [3, 7, 10, 13, 17, 20]), ([21, 20], [21]), ([22, 22, 0, 1, 2, 3, 4, 5, 6, 7, 8, 9, 10, 11, 12, 13, 14, 15, 16, 17, 18, 19, 20, 21, 22], [22])])
def plenumref49_Encode.B1 : List Nat := [0, 1, 3, 7, 0, 16, 48, 127, 0, 256, 1023, 0, 2048, 8191, 0, 16384, 49152, 131071, 0, 262144, 1048575, 2097151, 4194303, 8388607]
theorem plenumref49_Encode.tab1 : rtab .any (opsOf Tryd.f17 1) = plenumref49_Encode.T1 := by kernel_rfl
theorem plenumref49_Encode.bits1 : waitsOk plenumref49_Encode.T1.2 plenumref49_Encode.B1 = true := by kernel_rfl
set_option maxHeartbeats 8000000 in
set_option maxRecDepth 100000 in
theorem plenumref49_Encode.calls (k : Nat) (a0_0 : Int) (a0_1 : Int) (a0_2 : Int) (a0_3 : Bool) (a0_4 : Int) (a0_5 : ByteArray) (r : ByteArray) (w : World) (hG : Glob w) (h : plenumref49_Encode.f k a0_0 a0_1 a0_2 a0_3 a0_4 a0_5 = some r) :
  Calls Tryd.prog 17 #[.agg #[.int .i64 a0_0, .int .i64 a0_1, .int .i64 a0_2, .bool a0_3, .int .i64 a0_4, .string a0_5]] w fun e w' => e = .returned (.string r) ∧ Below w.heap.size w w' := by
 have hu27 := Tryd.underlying27
 have HG := Aside0.mk hG
 clear hG
 have HB := Aside0.mk (Below.refl w.heap.size w)
 have H : ((plenumref02_Unsigned.f k (IntKind.u64.wrap (a0_0))).bind fun t232 => ((plenumref02_Unsigned.f k (IntKind.u64.wrap (a0_1))).bind fun t233 => ((plenumref02_Signed.f k a0_2).bind fun t234 => ((plenumref02_Bool.f a0_3).bind fun t235 => ((plenumref02_Unsigned.f k (IntKind.u64.wrap (a0_4))).bind fun t236 => ((plenumref02_Text.f k a0_5).bind fun t237 => ((plenumref02_List.f k (([t232, t233, t234, t235, t236, t237] : List ByteArray))).bind fun t241 => (some t241)))))))) = some r := h
 clear h
 replace H := Option.bind_eq_some_iff.mp H
 obtain ⟨t232, A20, H⟩ := H
 replace H : ((plenumref02_Unsigned.f k (IntKind.u64.wrap (a0_1))).bind fun t233 => ((plenumref02_Signed.f k a0_2).bind fun t234 => ((plenumref02_Bool.f a0_3).bind fun t235 => ((plenumref02_Unsigned.f k (IntKind.u64.wrap (a0_4))).bind fun t236 => ((plenumref02_Text.f k a0_5).bind fun t237 => ((plenumref02_List.f k (([t232, t233, t234, t235, t236, t237] : List ByteArray))).bind fun t241 => (some t241))))))) = some r := H
 have A2 := Aside0.mk A20
 clear A20
 replace H := Option.bind_eq_some_iff.mp H
 obtain ⟨t233, A30, H⟩ := H
 replace H : ((plenumref02_Signed.f k a0_2).bind fun t234 => ((plenumref02_Bool.f a0_3).bind fun t235 => ((plenumref02_Unsigned.f k (IntKind.u64.wrap (a0_4))).bind fun t236 => ((plenumref02_Text.f k a0_5).bind fun t237 => ((plenumref02_List.f k (([t232, t233, t234, t235, t236, t237] : List ByteArray))).bind fun t241 => (some t241)))))) = some r := H
 have A3 := Aside0.mk A30
 clear A30
 replace H := Option.bind_eq_some_iff.mp H
 obtain ⟨t234, A40, H⟩ := H
 replace H : ((plenumref02_Bool.f a0_3).bind fun t235 => ((plenumref02_Unsigned.f k (IntKind.u64.wrap (a0_4))).bind fun t236 => ((plenumref02_Text.f k a0_5).bind fun t237 => ((plenumref02_List.f k (([t232, t233, t234, t235, t236, t237] : List ByteArray))).bind fun t241 => (some t241))))) = some r := H
 have A4 := Aside0.mk A40
 clear A40
 replace H := Option.bind_eq_some_iff.mp H
 obtain ⟨t235, A50, H⟩ := H
 replace H : ((plenumref02_Unsigned.f k (IntKind.u64.wrap (a0_4))).bind fun t236 => ((plenumref02_Text.f k a0_5).bind fun t237 => ((plenumref02_List.f k (([t232, t233, t234, t235, t236, t237] : List ByteArray))).bind fun t241 => (some t241)))) = some r := H
 have A5 := Aside0.mk A50
 clear A50
 replace H := Option.bind_eq_some_iff.mp H
 obtain ⟨t236, A60, H⟩ := H
 replace H : ((plenumref02_Text.f k a0_5).bind fun t237 => ((plenumref02_List.f k (([t232, t233, t234, t235, t236, t237] : List ByteArray))).bind fun t241 => (some t241))) = some r := H
 have A6 := Aside0.mk A60
 clear A60
 replace H := Option.bind_eq_some_iff.mp H
 obtain ⟨t237, A70, H⟩ := H
 replace H : ((plenumref02_List.f k (([t232, t233, t234, t235, t236, t237] : List ByteArray))).bind fun t241 => (some t241)) = some r := H
 have A7 := Aside0.mk A70
 clear A70
 obtain ⟨y238, hy238⟩ : ∃ y_ : List ByteArray, y_ = (([t232, t233, t234, t235, t236, t237] : List ByteArray)) := ⟨_, rfl⟩
 replace H : ((plenumref02_List.f k y238).bind fun t241 => (some t241)) = some r := by first | (rw [hy238]; with_reducible exact H) | (have H2_ := (Option.bind_some _ _).symm.trans H; rw [hy238]; with_reducible exact H2_) | (have H2_ := (Option.bind_some _ _).symm.trans H; with_reducible exact H2_) | with_reducible exact H | (rw [hy238]; exact H) | exact H
 have Ny238 := Aside0.mk hy238
 clear hy238
 replace H := Option.bind_eq_some_iff.mp H
 obtain ⟨t241, A80, H⟩ := H
 replace H : (some t241) = some r := H
 have A8 := Aside0.mk A80
 clear A80
 obtain rfl := Option.some.inj H
 go_enter Tryd.func17, Tryd.ntmps17
 try go_wp2_with (first | ((with_reducible refine gate_dst (N := 1) rfl ?_); refine box_event ?hg (N := 1) ?hd (cs := #[.int .i64 a0_0, .int .i64 a0_1, .int .i64 a0_2, .bool a0_3, .int .i64 a0_4, .string a0_5]) (t := 27) ?hr ?_; (case hd => rfl); (case hg => rfl); (case hr => first | (go_simp; done) | (go_simp; rfl)); intro gb231 hg w9 hbox hb; have n0_ := Aside0.mk (below_step (by repeat (first | (with_reducible first | exact HB.out | apply below_alloc | apply pw_below_drewN | apply below_drew1) | exact HB.out)) hb); have n1_ := Aside0.mk (hbox); have n2_ := Aside0.mk ((by rw [hg]; exact (below_size (by repeat (first | (with_reducible first | exact HB.out | apply below_alloc | apply pw_below_drewN | apply below_drew1) | exact HB.out))) : w.heap.size ≤ gb231)); have n3_ := Aside0.mk ((by rw [hg]; exact (below_size (by repeat (first | (with_reducible first | exact HB.out | apply below_alloc | apply pw_below_drewN | apply below_drew1) | exact HB.out))) : w.heap.size ≤ gb231)); clear HB; have HB := n0_; have BK231 := n1_; have GW231 := n2_; have GE231 := n3_; clear n0_ n1_ n2_ n3_; clear hb hbox hg))
 have n0_ := Aside0.mk (blk_drew BK231.out)
 have n1_ := Aside0.mk (below_drew1 HB.out)
 clear BK231
 clear HB
 have BK231 := n0_
 have HB := n1_
 clear n0_ n1_
 refine start_ (n := 24) (S := fun w' => w'.cell? ⟨gb231, 0, none⟩ = some (.int .i64 a0_0) ∧ w'.cell? ⟨gb231, 1, none⟩ = some (.int .i64 a0_1) ∧ w'.cell? ⟨gb231, 2, none⟩ = some (.int .i64 a0_2) ∧ w'.cell? ⟨gb231, 3, none⟩ = some (.bool a0_3) ∧ w'.cell? ⟨gb231, 4, none⟩ = some (.int .i64 a0_4) ∧ w'.cell? ⟨gb231, 5, none⟩ = some (.string a0_5)) (ds := []) #[Yn, Yn, Yn, Yn, Yn, Yn, Yn, Yn, Yn, Yn, Yn, Yn, Yn, Yn, Yn, Yn, Yn, Yn, Yn, Yn, Yn, Yn, Yn, Yn] (by kernel_rfl) rfl rfl ⟨(blk_cell BK231.out 0).trans rfl, (blk_cell BK231.out 1).trans rfl, (blk_cell BK231.out 2).trans rfl, (blk_cell BK231.out 3).trans rfl, (blk_cell BK231.out 4).trans rfl, (blk_cell BK231.out 5).trans rfl⟩ (fun hHeld => ?_); refine with_tabW plenumref49_Encode.tab1 plenumref49_Encode.bits1 (fun HT_ HW_ => ?_)
 generalize w9.drew = w10 at BK231 HB hHeld ⊢
 refine pure_ (i := 0) (N := some 3) (v := ?_) (a' := ?_) #[Y, Yn, Yn, Yn, Yn, Yn, Yn, Yn, Yn, Yn, Yn, Yn, Yn, Yn, Yn, Yn, Yn, Yn, Yn, Yn, Yn, Yn, Yn, Yn] rfl rfl (any_of HT_.out (by kernel_rfl)) (fun _ _ _ h => h) (Or.inl ⟨by rfl, ?_⟩) ?_ ?_
 rotate_left
 ·intro w'
  go_simp
  with_reducible rfl
 rotate_left
 ·simp only [Act.put, List.setIfInBounds_toArray, List.set_cons_zero, List.set_cons_succ, i64_w, i32_w]
  rfl
 refine pure_ (i := 4) (N := some 7) (v := ?_) (a' := ?_) #[Y, Yn, Yn, Yn, Y, Yn, Yn, Yn, Yn, Yn, Yn, Yn, Yn, Yn, Yn, Yn, Yn, Yn, Yn, Yn, Yn, Yn, Yn, Yn] rfl rfl (any_of HT_.out (by kernel_rfl)) (fun _ _ _ h => h) (Or.inl ⟨by rfl, ?_⟩) ?_ ?_
 rotate_left
 ·intro w'
  go_simp
  with_reducible rfl
 rotate_left
 ·simp only [Act.put, List.setIfInBounds_toArray, List.set_cons_zero, List.set_cons_succ, i64_w, i32_w]
  rfl
 refine pure_ (i := 8) (N := some 11) (v := ?_) (a' := ?_) #[Y, Yn, Yn, Yn, Y, Yn, Yn, Yn, Y, Yn, Yn, Yn, Yn, Yn, Yn, Yn, Yn, Yn, Yn, Yn, Yn, Yn, Yn, Yn] rfl rfl (any_of HT_.out (by kernel_rfl)) (fun _ _ _ h => h) (Or.inl ⟨by rfl, ?_⟩) ?_ ?_
 rotate_left
 ·intro w'
  go_simp
  with_reducible rfl
 rotate_left
 ·simp only [Act.put, List.setIfInBounds_toArray, List.set_cons_zero, List.set_cons_succ, i64_w, i32_w]
  rfl
 refine pure_ (i := 11) (N := some 14) (v := ?_) (a' := ?_) #[Y, Yn, Yn, Yn, Y, Yn, Yn, Yn, Y, Yn, Yn, Y, Yn, Yn, Yn, Yn, Yn, Yn, Yn, Yn, Yn, Yn, Yn, Yn] rfl rfl (any_of HT_.out (by kernel_rfl)) (fun _ _ _ h => h) (Or.inl ⟨by rfl, ?_⟩) ?_ ?_
 rotate_left
 ·intro w'
  go_simp
  with_reducible rfl
 rotate_left
 ·simp only [Act.put, List.setIfInBounds_toArray, List.set_cons_zero, List.set_cons_succ, i64_w, i32_w]
  rfl
 refine pure_ (i := 14) (N := some 17) (v := ?_) (a' := ?_) #[Y, Yn, Yn, Yn, Y, Yn, Yn, Yn, Y, Yn, Yn, Y, Yn, Yn, Y, Yn, Yn, Yn, Yn, Yn, Yn, Yn, Yn, Yn] rfl rfl (any_of HT_.out (by kernel_rfl)) (fun _ _ _ h => h) (Or.inl ⟨by rfl, ?_⟩) ?_ ?_
 rotate_left
 ·intro w'
  go_simp
  with_reducible rfl
 rotate_left
 ·simp only [Act.put, List.setIfInBounds_toArray, List.set_cons_zero, List.set_cons_succ, i64_w, i32_w]
  rfl
 refine pure_ (i := 18) (N := some 21) (v := ?_) (a' := ?_) #[Y, Yn, Yn, Yn, Y, Yn, Yn, Yn, Y, Yn, Yn, Y, Yn, Yn, Y, Yn, Yn, Yn, Y, Yn, Yn, Yn, Yn, Yn] rfl rfl (any_of HT_.out (by kernel_rfl)) (fun _ _ _ h => h) (Or.inl ⟨by rfl, ?_⟩) ?_ ?_
 rotate_left
 ·intro w'
  go_simp
  with_reducible rfl
 rotate_left
 ·simp only [Act.put, List.setIfInBounds_toArray, List.set_cons_zero, List.set_cons_succ, i64_w, i32_w]
  rfl
 refine take_ (i := 1) (N := some 4) (v := ?_) (a' := ?_) #[Y, Y, Yn, Yn, Y, Yn, Yn, Yn, Y, Yn, Yn, Y, Yn, Yn, Y, Yn, Yn, Yn, Y, Yn, Yn, Yn, Yn, Yn] rfl rfl (take_ofW HT_.out HW_.out (by kernel_rfl)) (fun _ _ _ h => h) (Or.inl ⟨by rfl, ?_⟩) hHeld ?_ ?_
 rotate_left
 ·rintro w' ⟨s0, s1, s2, s3, s4, s5⟩
  go_simp
  with_reducible rfl
 rotate_left
 ·simp only [Act.put, List.setIfInBounds_toArray, List.set_cons_zero, List.set_cons_succ, i64_w, i32_w]
  rfl
 refine pure_ (i := 2) (N := some 5) (v := ?_) (a' := ?_) #[Y, Y, Y, Yn, Y, Yn, Yn, Yn, Y, Yn, Yn, Y, Yn, Yn, Y, Yn, Yn, Yn, Y, Yn, Yn, Yn, Yn, Yn] rfl rfl (any_of HT_.out (by kernel_rfl)) (fun _ _ _ h => h) (Or.inl ⟨by rfl, ?_⟩) ?_ ?_
 rotate_left
 ·intro w'
  go_simp
  with_reducible rfl
 rotate_left
 ·simp only [Act.put, List.setIfInBounds_toArray, List.set_cons_zero, List.set_cons_succ, i64_w, i32_w]
  rfl
 refine take_ (i := 5) (N := some 8) (v := ?_) (a' := ?_) #[Y, Y, Y, Yn, Y, Y, Yn, Yn, Y, Yn, Yn, Y, Yn, Yn, Y, Yn, Yn, Yn, Y, Yn, Yn, Yn, Yn, Yn] rfl rfl (take_ofW HT_.out HW_.out (by kernel_rfl)) (fun _ _ _ h => h) (Or.inl ⟨by rfl, ?_⟩) hHeld ?_ ?_
 rotate_left
 ·rintro w' ⟨s0, s1, s2, s3, s4, s5⟩
  go_simp
  with_reducible rfl
 rotate_left
 ·simp only [Act.put, List.setIfInBounds_toArray, List.set_cons_zero, List.set_cons_succ, i64_w, i32_w]
  rfl
 refine pure_ (i := 6) (N := some 9) (v := ?_) (a' := ?_) #[Y, Y, Y, Yn, Y, Y, Y, Yn, Y, Yn, Yn, Y, Yn, Yn, Y, Yn, Yn, Yn, Y, Yn, Yn, Yn, Yn, Yn] rfl rfl (any_of HT_.out (by kernel_rfl)) (fun _ _ _ h => h) (Or.inl ⟨by rfl, ?_⟩) ?_ ?_
 rotate_left
 ·intro w'
  go_simp
  with_reducible rfl
 rotate_left
 ·simp only [Act.put, List.setIfInBounds_toArray, List.set_cons_zero, List.set_cons_succ, i64_w, i32_w]
  rfl
 refine take_ (i := 9) (N := some 12) (v := ?_) (a' := ?_) #[Y, Y, Y, Yn, Y, Y, Y, Yn, Y, Y, Yn, Y, Yn, Yn, Y, Yn, Yn, Yn, Y, Yn, Yn, Yn, Yn, Yn] rfl rfl (take_ofW HT_.out HW_.out (by kernel_rfl)) (fun _ _ _ h => h) (Or.inl ⟨by rfl, ?_⟩) hHeld ?_ ?_
 rotate_left
 ·rintro w' ⟨s0, s1, s2, s3, s4, s5⟩
  go_simp
  with_reducible rfl
 rotate_left
 ·simp only [Act.put, List.setIfInBounds_toArray, List.set_cons_zero, List.set_cons_succ, i64_w, i32_w]
  rfl
 refine take_ (i := 12) (N := some 15) (v := ?_) (a' := ?_) #[Y, Y, Y, Yn, Y, Y, Y, Yn, Y, Y, Yn, Y, Y, Yn, Y, Yn, Yn, Yn, Y, Yn, Yn, Yn, Yn, Yn] rfl rfl (take_ofW HT_.out HW_.out (by kernel_rfl)) (fun _ _ _ h => h) (Or.inl ⟨by rfl, ?_⟩) hHeld ?_ ?_
 rotate_left
 ·rintro w' ⟨s0, s1, s2, s3, s4, s5⟩
  go_simp
  with_reducible rfl
 rotate_left
 ·simp only [Act.put, List.setIfInBounds_toArray, List.set_cons_zero, List.set_cons_succ, i64_w, i32_w]
  rfl
 refine take_ (i := 15) (N := some 18) (v := ?_) (a' := ?_) #[Y, Y, Y, Yn, Y, Y, Y, Yn, Y, Y, Yn, Y, Y, Yn, Y, Y, Yn, Yn, Y, Yn, Yn, Yn, Yn, Yn] rfl rfl (take_ofW HT_.out HW_.out (by kernel_rfl)) (fun _ _ _ h => h) (Or.inl ⟨by rfl, ?_⟩) hHeld ?_ ?_
 rotate_left
 ·rintro w' ⟨s0, s1, s2, s3, s4, s5⟩
  go_simp
  with_reducible rfl
 rotate_left
 ·simp only [Act.put, List.setIfInBounds_toArray, List.set_cons_zero, List.set_cons_succ, i64_w, i32_w]
  rfl
 refine pure_ (i := 16) (N := some 19) (v := ?_) (a' := ?_) #[Y, Y, Y, Yn, Y, Y, Y, Yn, Y, Y, Yn, Y, Y, Yn, Y, Y, Y, Yn, Y, Yn, Yn, Yn, Yn, Yn] rfl rfl (any_of HT_.out (by kernel_rfl)) (fun _ _ _ h => h) (Or.inl ⟨by rfl, ?_⟩) ?_ ?_
 rotate_left
 ·intro w'
  go_simp
  with_reducible rfl
 rotate_left
 ·simp only [Act.put, List.setIfInBounds_toArray, List.set_cons_zero, List.set_cons_succ, i64_w, i32_w]
  rfl
 refine take_ (i := 19) (N := some 22) (v := ?_) (a' := ?_) #[Y, Y, Y, Yn, Y, Y, Y, Yn, Y, Y, Yn, Y, Y, Yn, Y, Y, Y, Yn, Y, Y, Yn, Yn, Yn, Yn] rfl rfl (take_ofW HT_.out HW_.out (by kernel_rfl)) (fun _ _ _ h => h) (Or.inl ⟨by rfl, ?_⟩) hHeld ?_ ?_
 rotate_left
 ·rintro w' ⟨s0, s1, s2, s3, s4, s5⟩
  go_simp
  with_reducible rfl
 rotate_left
 ·simp only [Act.put, List.setIfInBounds_toArray, List.set_cons_zero, List.set_cons_succ, i64_w, i32_w]
  rfl
 refine one_ (i := 3) (N := some 6) #[Y, Y, Y, Y, Y, Y, Y, Yn, Y, Y, Yn, Y, Y, Yn, Y, Y, Y, Yn, Y, Y, Yn, Yn, Yn, Yn] rfl rfl (one_of HT_.out (by kernel_rfl)) (by decide) (fun K hK => ?_)
 refine goes_ Tryd.func60 (by kernel_rfl) rfl #[.int .u64 (IntKind.u64.wrap (a0_0))] (by rfl) rfl rfl (by (try simp only [List.map_toArray, List.map_cons, List.map_nil]); first | done | rfl | (simp only [List.length_drop, List.length_take]; rfl)) ?_
 with_reducible refine (plenumref02_Unsigned.calls k (IntKind.u64.wrap (a0_0)) t232 _ ?side99  A2.out).mono ?_
 (case side99 => first | exact HG.out | exact Glob.below HG.out (by repeat (first | (with_reducible first | exact HB.out | apply below_alloc | apply pw_below_drewN | apply below_drew1 | refine below_set ?_ GE231.out) | exact HB.out)))
 rintro e w11 ⟨rfl, hb⟩
 refine ⟨_, rfl, ?_⟩
 have n0_ := Aside0.mk (blk_below (g := gb231) (o := .cells #[.int .i64 a0_0, .int .i64 a0_1, .int .i64 a0_2, .bool a0_3, .int .i64 a0_4, .string a0_5] 27 (0, 0)) (by (with_reducible repeat (first | refine blk_drewN ?_ _ | refine blk_drew ?_ | refine blk_alloc ?_ _)); exact BK231.out) hb)
 have n1_ := Aside0.mk (below_step (by repeat (first | (with_reducible first | exact HB.out | apply below_alloc | apply pw_below_drewN | apply below_drew1 | refine below_set ?_ GE231.out) | exact HB.out)) hb)
 clear BK231
 clear HB
 have BK231 := n0_
 have HB := n1_
 clear n0_ n1_
 (try clear hb)
 (try clear hb2)
 (try clear hk)
 (try clear hi)
 refine hK.out _ _ ⟨(blk_cell BK231.out 0).trans rfl, (blk_cell BK231.out 1).trans rfl, (blk_cell BK231.out 2).trans rfl, (blk_cell BK231.out 3).trans rfl, (blk_cell BK231.out 4).trans rfl, (blk_cell BK231.out 5).trans rfl⟩ (fun hHeld => ?_)
 clear hK K
 refine norm_ (a' := ?_) ?_ ?_
 rotate_left
 ·show Act.put _ (some 6) _ = _
  simp only [Act.put, List.setIfInBounds_toArray, List.set_cons_zero, List.set_cons_succ, i64_w, i32_w]
  rfl
 refine one_ (i := 7) (N := some 10) #[Y, Y, Y, Y, Y, Y, Y, Y, Y, Y, Yn, Y, Y, Yn, Y, Y, Y, Yn, Y, Y, Yn, Yn, Yn, Yn] rfl rfl (one_of HT_.out (by kernel_rfl)) (by decide) (fun K hK => ?_)
 refine goes_ Tryd.func60 (by kernel_rfl) rfl #[.int .u64 (IntKind.u64.wrap (a0_1))] (by rfl) rfl rfl (by (try simp only [List.map_toArray, List.map_cons, List.map_nil]); first | done | rfl | (simp only [List.length_drop, List.length_take]; rfl)) ?_
 with_reducible refine (plenumref02_Unsigned.calls k (IntKind.u64.wrap (a0_1)) t233 _ ?side99  A3.out).mono ?_
 (case side99 => first | exact HG.out | exact Glob.below HG.out (by repeat (first | (with_reducible first | exact HB.out | apply below_alloc | apply pw_below_drewN | apply below_drew1 | refine below_set ?_ GE231.out) | exact HB.out)))
 rintro e w12 ⟨rfl, hb⟩
 refine ⟨_, rfl, ?_⟩
 have n0_ := Aside0.mk (blk_below (g := gb231) (o := .cells #[.int .i64 a0_0, .int .i64 a0_1, .int .i64 a0_2, .bool a0_3, .int .i64 a0_4, .string a0_5] 27 (0, 0)) (by (with_reducible repeat (first | refine blk_drewN ?_ _ | refine blk_drew ?_ | refine blk_alloc ?_ _)); exact BK231.out) hb)
 have n1_ := Aside0.mk (below_step (by repeat (first | (with_reducible first | exact HB.out | apply below_alloc | apply pw_below_drewN | apply below_drew1 | refine below_set ?_ GE231.out) | exact HB.out)) hb)
 clear BK231
 clear HB
 have BK231 := n0_
 have HB := n1_
 clear n0_ n1_
 (try clear hb)
 (try clear hb2)
 (try clear hk)
 (try clear hi)
 refine hK.out _ _ ⟨(blk_cell BK231.out 0).trans rfl, (blk_cell BK231.out 1).trans rfl, (blk_cell BK231.out 2).trans rfl, (blk_cell BK231.out 3).trans rfl, (blk_cell BK231.out 4).trans rfl, (blk_cell BK231.out 5).trans rfl⟩ (fun hHeld => ?_)
 clear hK K
 refine norm_ (a' := ?_) ?_ ?_
 rotate_left
 ·show Act.put _ (some 10) _ = _
  simp only [Act.put, List.setIfInBounds_toArray, List.set_cons_zero, List.set_cons_succ, i64_w, i32_w]
  rfl
 refine one_ (i := 10) (N := some 13) #[Y, Y, Y, Y, Y, Y, Y, Y, Y, Y, Y, Y, Y, Yn, Y, Y, Y, Yn, Y, Y, Yn, Yn, Yn, Yn] rfl rfl (one_of HT_.out (by kernel_rfl)) (by decide) (fun K hK => ?_)
 refine goes_ Tryd.func61 (by kernel_rfl) rfl #[.int .i64 a0_2] (by rfl) rfl rfl (by (try simp only [List.map_toArray, List.map_cons, List.map_nil]); first | done | rfl | (simp only [List.length_drop, List.length_take]; rfl)) ?_
 with_reducible refine (plenumref02_Signed.calls k a0_2 t234 _ ?side99  A4.out).mono ?_
 (case side99 => first | exact HG.out | exact Glob.below HG.out (by repeat (first | (with_reducible first | exact HB.out | apply below_alloc | apply pw_below_drewN | apply below_drew1 | refine below_set ?_ GE231.out) | exact HB.out)))
 rintro e w13 ⟨rfl, hb⟩
 refine ⟨_, rfl, ?_⟩
 have n0_ := Aside0.mk (blk_below (g := gb231) (o := .cells #[.int .i64 a0_0, .int .i64 a0_1, .int .i64 a0_2, .bool a0_3, .int .i64 a0_4, .string a0_5] 27 (0, 0)) (by (with_reducible repeat (first | refine blk_drewN ?_ _ | refine blk_drew ?_ | refine blk_alloc ?_ _)); exact BK231.out) hb)
 have n1_ := Aside0.mk (below_step (by repeat (first | (with_reducible first | exact HB.out | apply below_alloc | apply pw_below_drewN | apply below_drew1 | refine below_set ?_ GE231.out) | exact HB.out)) hb)
 clear BK231
 clear HB
 have BK231 := n0_
 have HB := n1_
 clear n0_ n1_
 (try clear hb)
 (try clear hb2)
 (try clear hk)
 (try clear hi)
 refine hK.out _ _ ⟨(blk_cell BK231.out 0).trans rfl, (blk_cell BK231.out 1).trans rfl, (blk_cell BK231.out 2).trans rfl, (blk_cell BK231.out 3).trans rfl, (blk_cell BK231.out 4).trans rfl, (blk_cell BK231.out 5).trans rfl⟩ (fun hHeld => ?_)
 clear hK K
 refine norm_ (a' := ?_) ?_ ?_
 rotate_left
 ·show Act.put _ (some 13) _ = _
  simp only [Act.put, List.setIfInBounds_toArray, List.set_cons_zero, List.set_cons_succ, i64_w, i32_w]
  rfl
 refine one_ (i := 13) (N := some 16) #[Y, Y, Y, Y, Y, Y, Y, Y, Y, Y, Y, Y, Y, Y, Y, Y, Y, Yn, Y, Y, Yn, Yn, Yn, Yn] rfl rfl (one_of HT_.out (by kernel_rfl)) (by decide) (fun K hK => ?_)
 refine goes_ Tryd.func56 (by kernel_rfl) rfl #[.bool a0_3] (by rfl) rfl rfl (by (try simp only [List.map_toArray, List.map_cons, List.map_nil]); first | done | rfl | (simp only [List.length_drop, List.length_take]; rfl)) ?_
 with_reducible refine (plenumref02_Bool.calls a0_3 t235 _ ?side99  A5.out).mono ?_
 (case side99 => first | exact HG.out | exact Glob.below HG.out (by repeat (first | (with_reducible first | exact HB.out | apply below_alloc | apply pw_below_drewN | apply below_drew1 | refine below_set ?_ GE231.out) | exact HB.out)))
 rintro e w' ⟨rfl, ⟨nd, rfl⟩⟩
 refine ⟨_, rfl, ?_⟩
 refine hK.out _ _ ⟨(blk_cell BK231.out 0).trans rfl, (blk_cell BK231.out 1).trans rfl, (blk_cell BK231.out 2).trans rfl, (blk_cell BK231.out 3).trans rfl, (blk_cell BK231.out 4).trans rfl, (blk_cell BK231.out 5).trans rfl⟩ (fun hHeld => ?_)
 clear hK K
 refine norm_ (a' := ?_) ?_ ?_
 rotate_left
 ·show Act.put _ (some 16) _ = _
  simp only [Act.put, List.setIfInBounds_toArray, List.set_cons_zero, List.set_cons_succ, i64_w, i32_w]
  rfl
 refine one_ (i := 17) (N := some 20) #[Y, Y, Y, Y, Y, Y, Y, Y, Y, Y, Y, Y, Y, Y, Y, Y, Y, Y, Y, Y, Yn, Yn, Yn, Yn] rfl rfl (one_of HT_.out (by kernel_rfl)) (by decide) (fun K hK => ?_)
 refine goes_ Tryd.func60 (by kernel_rfl) rfl #[.int .u64 (IntKind.u64.wrap (a0_4))] (by rfl) rfl rfl (by (try simp only [List.map_toArray, List.map_cons, List.map_nil]); first | done | rfl | (simp only [List.length_drop, List.length_take]; rfl)) ?_
 with_reducible refine (plenumref02_Unsigned.calls k (IntKind.u64.wrap (a0_4)) t236 _ ?side99  A6.out).mono ?_
 (case side99 => first | exact HG.out | exact Glob.below HG.out (by repeat (first | (with_reducible first | exact HB.out | apply below_alloc | apply pw_below_drewN | apply below_drew1 | refine below_set ?_ GE231.out) | exact HB.out)))
 rintro e w14 ⟨rfl, hb⟩
 refine ⟨_, rfl, ?_⟩
 have n0_ := Aside0.mk (blk_below (g := gb231) (o := .cells #[.int .i64 a0_0, .int .i64 a0_1, .int .i64 a0_2, .bool a0_3, .int .i64 a0_4, .string a0_5] 27 (0, 0)) (by (with_reducible repeat (first | refine blk_drewN ?_ _ | refine blk_drew ?_ | refine blk_alloc ?_ _)); exact BK231.out) hb)
 have n1_ := Aside0.mk (below_step (by repeat (first | (with_reducible first | exact HB.out | apply below_alloc | apply pw_below_drewN | apply below_drew1 | refine below_set ?_ GE231.out) | exact HB.out)) hb)
 clear BK231
 clear HB
 have BK231 := n0_
 have HB := n1_
 clear n0_ n1_
 (try clear hb)
 (try clear hb2)
 (try clear hk)
 (try clear hi)
 refine hK.out _ _ ⟨(blk_cell BK231.out 0).trans rfl, (blk_cell BK231.out 1).trans rfl, (blk_cell BK231.out 2).trans rfl, (blk_cell BK231.out 3).trans rfl, (blk_cell BK231.out 4).trans rfl, (blk_cell BK231.out 5).trans rfl⟩ (fun hHeld => ?_)
 clear hK K
 refine norm_ (a' := ?_) ?_ ?_
 rotate_left
 ·show Act.put _ (some 20) _ = _
  simp only [Act.put, List.setIfInBounds_toArray, List.set_cons_zero, List.set_cons_succ, i64_w, i32_w]
  rfl
 refine one_ (i := 20) (N := some 23) #[Y, Y, Y, Y, Y, Y, Y, Y, Y, Y, Y, Y, Y, Y, Y, Y, Y, Y, Y, Y, Y, Yn, Yn, Yn] rfl rfl (one_of HT_.out (by kernel_rfl)) (by decide) (fun K hK => ?_)
 refine goes_ Tryd.func62 (by kernel_rfl) rfl #[.string a0_5] (by rfl) rfl rfl (by (try simp only [List.map_toArray, List.map_cons, List.map_nil]); first | done | rfl | (simp only [List.length_drop, List.length_take]; rfl)) ?_
 with_reducible refine (plenumref02_Text.calls k a0_5 t237 _ ?side99  A7.out).mono ?_
 (case side99 => first | exact HG.out | exact Glob.below HG.out (by repeat (first | (with_reducible first | exact HB.out | apply below_alloc | apply pw_below_drewN | apply below_drew1 | refine below_set ?_ GE231.out) | exact HB.out)))
 rintro e w15 ⟨rfl, hb⟩
 refine ⟨_, rfl, ?_⟩
 have n0_ := Aside0.mk (blk_below (g := gb231) (o := .cells #[.int .i64 a0_0, .int .i64 a0_1, .int .i64 a0_2, .bool a0_3, .int .i64 a0_4, .string a0_5] 27 (0, 0)) (by (with_reducible repeat (first | refine blk_drewN ?_ _ | refine blk_drew ?_ | refine blk_alloc ?_ _)); exact BK231.out) hb)
 have n1_ := Aside0.mk (below_step (by repeat (first | (with_reducible first | exact HB.out | apply below_alloc | apply pw_below_drewN | apply below_drew1 | refine below_set ?_ GE231.out) | exact HB.out)) hb)
 clear BK231
 clear HB
 have BK231 := n0_
 have HB := n1_
 clear n0_ n1_
 (try clear hb)
 (try clear hb2)
 (try clear hk)
 (try clear hi)
 refine hK.out _ _ ⟨(blk_cell BK231.out 0).trans rfl, (blk_cell BK231.out 1).trans rfl, (blk_cell BK231.out 2).trans rfl, (blk_cell BK231.out 3).trans rfl, (blk_cell BK231.out 4).trans rfl, (blk_cell BK231.out 5).trans rfl⟩ (fun hHeld => ?_)
 clear hK K
 refine norm_ (a' := ?_) ?_ ?_
 rotate_left
 ·show Act.put _ (some 23) _ = _
  simp only [Act.put, List.setIfInBounds_toArray, List.set_cons_zero, List.set_cons_succ, i64_w, i32_w]
  rfl
 refine one_ (i := 21) (N := some 24) #[Y, Y, Y, Y, Y, Y, Y, Y, Y, Y, Y, Y, Y, Y, Y, Y, Y, Y, Y, Y, Y, Y, Yn, Yn] rfl rfl (one_of HT_.out (by kernel_rfl)) (by decide) (fun K hK => ?_)
 refine Kd.R_lit_step Kd.string _ 9 ?hg (N := 24) ?hd (xs := ([t232, t233, t234, t235, t236, t237] : List ByteArray)) (inner := [.string t232, .string t233, .string t234, .string t235, .string t236, .string t237]) (ok := fun _ => True) (okp := fun _ => True) ?hr ?hp (fun _ hk => hk) trivial (Below.refl _ _) (Nat.le_refl _) (by simp) ?_; (case hd => rfl); (case hg => rfl); (case hr => first | (go_simp; done) | (go_simp; rfl)); (case hp => exact (Reps.one (show Kd.M Kd.string _ _ _ t232 [.string t232] from rfl) (Reps.one (show Kd.M Kd.string _ _ _ t233 [.string t233] from rfl) (Reps.one (show Kd.M Kd.string _ _ _ t234 [.string t234] from rfl) (Reps.one (show Kd.M Kd.string _ _ _ t235 [.string t235] from rfl) (Reps.one (show Kd.M Kd.string _ _ _ t236 [.string t236] from rfl) (Reps.one (show Kd.M Kd.string _ _ _ t237 [.string t237] from rfl) (Reps.none _ _))))))))
 intro v239 w16 ho17 hb hg_ hnew_
 clear hg_ hnew_
 (first | rw [← Ny238.out] at ho17 | (simp only [Int.reduceToNat] at ho17; rw [← Ny238.out] at ho17))
 have n0_ := Aside0.mk (Kd.R_lower ho17 (below_size (by repeat (first | (with_reducible first | exact HB.out | apply below_alloc | apply pw_below_drewN | apply below_drew1 | refine below_set ?_ GE231.out) | exact HB.out))))
 have n1_ := Aside0.mk (blk_below (g := gb231) (o := .cells #[.int .i64 a0_0, .int .i64 a0_1, .int .i64 a0_2, .bool a0_3, .int .i64 a0_4, .string a0_5] 27 (0, 0)) (by (with_reducible repeat (first | refine blk_drewN ?_ _ | refine blk_drew ?_ | refine blk_alloc ?_ _)); exact BK231.out) hb)
 have n2_ := Aside0.mk (below_step (by repeat (first | (with_reducible first | exact HB.out | apply below_alloc | apply pw_below_drewN | apply below_drew1 | refine below_set ?_ GE231.out) | exact HB.out)) hb)
 clear BK231
 clear HB
 have HO240 := n0_
 have BK231 := n1_
 have HB := n2_
 clear n0_ n1_ n2_
 clear hb ho17
 obtain ⟨Ao18, co18, eo18⟩ := Kd.R_slice HO240.out
 (first | subst eo18 | (injection eo18 with f1_ f2_ f3_; have f4_ := f1_.symm; have f5_ := f3_.symm; clear f1_ f2_ f3_; subst f4_; subst f5_))
 refine hK.out _ _ ⟨(blk_cell BK231.out 0).trans rfl, (blk_cell BK231.out 1).trans rfl, (blk_cell BK231.out 2).trans rfl, (blk_cell BK231.out 3).trans rfl, (blk_cell BK231.out 4).trans rfl, (blk_cell BK231.out 5).trans rfl⟩ (fun hHeld => ?_)
 clear hK K
 refine norm_ (a' := ?_) ?_ ?_
 rotate_left
 ·show Act.put _ (some 24) _ = _
  simp only [Act.put, List.setIfInBounds_toArray, List.set_cons_zero, List.set_cons_succ, i64_w, i32_w]
  rfl
 refine one_ (i := 22) (N := some 25) #[Y, Y, Y, Y, Y, Y, Y, Y, Y, Y, Y, Y, Y, Y, Y, Y, Y, Y, Y, Y, Y, Y, Y, Yn] rfl rfl (one_of HT_.out (by kernel_rfl)) (by decide) (fun K hK => ?_)
 refine goes_ Tryd.func59 (by kernel_rfl) rfl #[.slice Ao18 y238.length co18] (by rfl) rfl rfl (by (try simp only [List.map_toArray, List.map_cons, List.map_nil]); first | done | rfl | (simp only [List.length_drop, List.length_take]; rfl)) ?_
 with_reducible refine (plenumref02_List.calls k _ _ y238 t241 _ ?side99  ?side1 ?side2 A8.out).mono ?_
 (case side1 => repeat (first | exact (Kd.R_reads' HO240.out).2.2 | (with_reducible refine Kd.C_alloc ?_ _) | (with_reducible refine Kd.C_drewN ?_ _) | (with_reducible refine Kd.C_drew ?_)))
 (case side2 => exact (Kd.R_reads' HO240.out).2.1)
 (case side99 => first | exact HG.out | exact Glob.below HG.out (by repeat (first | (with_reducible first | exact HB.out | apply below_alloc | apply pw_below_drewN | apply below_drew1 | refine below_set ?_ GE231.out) | exact HB.out)))
 rintro e w19 ⟨rfl, hb⟩
 refine ⟨_, rfl, ?_⟩
 have n0_ := Aside0.mk (Kd.R_below (by (with_reducible repeat (first | apply Kd.R_alloc | apply Kd.R_drewN | apply Kd.R_drew)); exact HO240.out) hb)
 have n1_ := Aside0.mk (blk_below (g := gb231) (o := .cells #[.int .i64 a0_0, .int .i64 a0_1, .int .i64 a0_2, .bool a0_3, .int .i64 a0_4, .string a0_5] 27 (0, 0)) (by (with_reducible repeat (first | refine blk_drewN ?_ _ | refine blk_drew ?_ | refine blk_alloc ?_ _)); exact BK231.out) hb)
 have n2_ := Aside0.mk (below_step (by repeat (first | (with_reducible first | exact HB.out | apply below_alloc | apply pw_below_drewN | apply below_drew1 | refine below_set ?_ GE231.out) | exact HB.out)) hb)
 clear HO240
 clear BK231
 clear HB
 have HO240 := n0_
 have BK231 := n1_
 have HB := n2_
 clear n0_ n1_ n2_
 (try clear hb)
 (try clear hb2)
 (try clear hk)
 (try clear hi)
 refine hK.out _ _ ⟨(blk_cell BK231.out 0).trans rfl, (blk_cell BK231.out 1).trans rfl, (blk_cell BK231.out 2).trans rfl, (blk_cell BK231.out 3).trans rfl, (blk_cell BK231.out 4).trans rfl, (blk_cell BK231.out 5).trans rfl⟩ (fun hHeld => ?_)
 clear hK K
 refine norm_ (a' := ?_) ?_ ?_
 rotate_left
 ·show Act.put _ (some 25) _ = _
  simp only [Act.put, List.setIfInBounds_toArray, List.set_cons_zero, List.set_cons_succ, i64_w, i32_w]
  rfl
 refine pure_ (i := 23) (N := some 2) (v := ?_) (a' := ?_) #[Y, Y, Y, Y, Y, Y, Y, Y, Y, Y, Y, Y, Y, Y, Y, Y, Y, Y, Y, Y, Y, Y, Y, Y] rfl rfl (any_of HT_.out (by kernel_rfl)) (fun _ _ _ h => h) (Or.inl ⟨by rfl, ?_⟩) ?_ ?_
 rotate_left
 ·intro w'
  go_simp
  with_reducible rfl
 rotate_left
 ·simp only [Act.put, List.setIfInBounds_toArray, List.set_cons_zero, List.set_cons_succ, i64_w, i32_w]
  rfl
 refine done_ (done_of HT_.out (by kernel_rfl)) ?_
 try go_wp2
 go_ret
 exact ⟨by first | rfl | (simp [errW_none, errW_some] <;> rfl) | (simp [*, errW_none, errW_some] <;> rfl), by repeat (first | (with_reducible first | exact HB.out | apply below_alloc | apply pw_below_drewN | apply below_drew1 | refine below_set ?_ GE231.out) | exact HB.out)⟩
end Go.Proofs.YtbgabhknmpbgiaaDoor.S
end
section
namespace Go.Proofs.YtbgabhknmpbgiaaDoor.Pure
open Go.RowKit Go.Proofs.YtbgabhknmpbgiaaDoor.S Go.Proofs.YtbgabhknmpbgiaaDoorW.PrintWords Go.Proofs.YtbgabhknmpbgiaaDoorW.PrintLast Go.Proofs.YtbgabhknmpbgiaaDoorW.PrintMore
set_option linter.unusedVariables false
set_option linter.unusedSimpArgs false
def fullS (s : ByteArray) : Option (Int × Int × Int × Int × Bool × Int × ByteArray × Int) :=
 (lS s 0).bind fun a => (uS s a.2).bind fun b => (uS s b.2).bind fun c => (sS s c.2).bind fun d => if kindS s d.2 = 2 then (uS s (d.2 + 1)).bind fun f => (tS s f.2).bind fun g => some (a.1, b.1, c.1, d.1, bt s d.2 == 2, f.1, g.1, g.2) else none
def decA (s : ByteArray) : Int × Int × Int × Bool × Int × ByteArray × Int :=
 match fullS s with
 | none => (0, 0, 0, false, 0, (⟨#[]⟩ : ByteArray), 2)
 | some (n, k, i, num, m, wd, t, q) => if n = 6 ∧ q = (s.size : Int) ∧ k ≤ 1000 ∧ i ≤ 1000 ∧ wd ≤ 1000 then (if chk k i num m wd t = 0 then (k, i, num, m, wd, t, 0) else (0, 0, 0, false, 0, (⟨#[]⟩ : ByteArray), chk k i num m wd t)) else (0, 0, 0, false, 0, (⟨#[]⟩ : ByteArray), 2)
theorem eU (k : Nat) (s : ByteArray) (p : Int) : codec_Reader_Unsigned.f k s p 2 = some (0, s, p, 2) := rfl
theorem eS (k : Nat) (s : ByteArray) (p : Int) : codec_Reader_Signed.f k s p 2 = some (0, s, p, 2) := rfl
theorem eT (k : Nat) (s : ByteArray) (p : Int) : codec_Reader_Text.f k s p 2 = some ((⟨#[]⟩ : ByteArray), s, p, 2) := rfl
theorem eB (k : Nat) (s : ByteArray) (p : Int) : codec_Reader_Bool.f k s p 2 = some (false, s, p, 2) := rfl
theorem decR_bad (n kind id number : Int) (more : Bool) (window : Int) (text : ByteArray) (ce : Int) : decR n kind id number more window text 2 ce = (z23, 2) := rfl
theorem mx3 (a b c : Int) : mx (mx a b) c > 1000 ↔ ¬ (a ≤ 1000 ∧ b ≤ 1000 ∧ c ≤ 1000) := by
 unfold mx
 split <;> split <;> omega
theorem decP (s : ByteArray) (hz : s.size ≤ 1000000) : segment_Decode.f s = some (decA s) := by
 have hz' : s.size ≤ 140737488355327 := by omega
 have c0 : ∀ a b c d e f, segment_Check.f 40 a b c d e f = some (chk a b c d e f) := fun a b c d e f => chkP 36 a b c d e f
 unfold segment_Decode.f
 rw [rd_list 28 s 0 hz', Option.bind_some]
 unfold rdL
 cases ea : lS s 0 with
 | none => simp only [eU, eS, eT, eB, rd_end2, Option.bind_some, c0, decR_bad, decA, fullS, ea, Option.bind_none]; rfl
 | some a =>
 obtain ⟨n, p1⟩ := a
 simp only []
 rw [rd_unsigned 28 s p1 hz', Option.bind_some]
 unfold rdU
 cases eb : uS s p1 with
 | none => simp only [eU, eS, eT, eB, rd_end2, Option.bind_some, c0, decR_bad, decA, fullS, ea, eb, Option.bind_none]; rfl
 | some b =>
 obtain ⟨kd_, p2⟩ := b
 have hb := uS_some eb
 simp only []
 rw [rd_unsigned 28 s p2 hz', Option.bind_some]
 unfold rdU
 cases ec : uS s p2 with
 | none => simp only [eU, eS, eT, eB, rd_end2, Option.bind_some, c0, decR_bad, decA, fullS, ea, eb, ec, Option.bind_none]; rw [if_pos (by omega)]; rfl
 | some c =>
 obtain ⟨i, p3⟩ := c
 have hc := uS_some ec
 simp only []
 rw [rd_signed 28 s p3 hz', Option.bind_some]
 unfold rdS
 cases ed : sS s p3 with
 | none => simp only [eU, eS, eT, eB, rd_end2, Option.bind_some, c0, decR_bad, decA, fullS, ea, eb, ec, ed, Option.bind_none]; rw [if_pos (by omega)]; rfl
 | some d =>
 obtain ⟨num, p4⟩ := d
 have hd := sS_some ed
 simp only []
 rw [rd_bool 37 s p4 (by omega) (by omega), Option.bind_some]
 by_cases ek : kindS s p4 = 2
 case neg => simp only [if_neg ek, eU, eS, eT, eB, rd_end2, Option.bind_some, c0, decR_bad, decA, fullS, ea, eb, ec, ed, Option.bind_none]; rw [if_pos (by omega)]; rfl
 rw [if_pos ek]
 simp only []
 rw [rd_unsigned 28 s (p4 + 1) hz', Option.bind_some]
 unfold rdU
 cases ef : uS s (p4 + 1) with
 | none => simp only [eU, eS, eT, eB, rd_end2, Option.bind_some, c0, decR_bad, decA, fullS, ea, eb, ec, ed, if_pos ek, ef, Option.bind_none]; rw [if_pos (by omega)]; rfl
 | some f =>
 obtain ⟨wd, p6⟩ := f
 have hf := uS_some ef
 simp only []
 rw [rd_text 28 s p6 hz', Option.bind_some]
 unfold rdT
 cases eg : tS s p6 with
 | none => simp only [eU, eS, eT, eB, rd_end2, Option.bind_some, c0, decR_bad, decA, fullS, ea, eb, ec, ed, if_pos ek, ef, eg, Option.bind_none]; rw [if_pos (by omega)]; rfl
 | some g =>
 obtain ⟨t, q⟩ := g
 have hg := tS_some eg
 simp only []
 rw [rd_end s q (by omega), Option.bind_some, c0, Option.bind_some, if_pos (by omega)]
 simp only [decA, fullS, ea, eb, ec, ed, if_pos ek, ef, eg, Option.bind_some]
 unfold decR
 by_cases hq : q < (s.size : Int)
 ·rw [if_pos hq, if_neg (by decide), if_neg (by omega)]
  rfl
 ·rw [if_neg hq, if_pos rfl]
  by_cases hn : n = 6
  ·rw [if_pos hn]
   by_cases hm : mx (mx kd_ i) wd > 1000
   ·rw [if_pos hm, if_neg (fun h => (mx3 _ _ _).1 hm h.2.2)]
    rfl
   ·have hm' : kd_ ≤ 1000 ∧ i ≤ 1000 ∧ wd ≤ 1000 := by
     by_cases h : kd_ ≤ 1000 ∧ i ≤ 1000 ∧ wd ≤ 1000
     ·exact h
     ·exact absurd ((mx3 _ _ _).2 h) hm
    rw [if_neg hm]
    by_cases hc : chk kd_ i num (bt s p4 == 2) wd t = 0
    ·rw [if_pos hc, if_pos ⟨hn, by omega, hm'⟩, if_pos hc]
    ·rw [if_neg hc, if_pos ⟨hn, by omega, hm'⟩, if_neg hc]
     rfl
  ·rw [if_neg hn, if_neg (fun h => hn h.1)]
   rfl
theorem small1000 : ∀ m : Fin 1001, wrap64 (Go.bits .and .u64 (m.val : Int) 1023) = (m.val : Int) := by decide +kernel
def smS (s : ByteArray) (p : Int) : Option (Int × Int) := (uS s p).bind fun b => if b.1 ≤ 1000 then some b else none
theorem small_eq (k : Nat) (s : ByteArray) (p : Int) (hp : 0 ≤ p) (hz : s.size ≤ 140737488355327) : (∀ v e, smS s p = some (v, e) → plenumref49_small.f (k + 18) s p = some (v, e, true)) ∧ (smS s p = none → ∃ v e, plenumref49_small.f (k + 18) s p = some (v, e, false)) := by
 unfold plenumref49_small.f smS
 rw [refRU_eq k s p hp hz, Option.bind_some]
 cases e : uS s p with
 | none => exact ⟨fun v e h => by simp at h, fun _ => by rw [opt3_none, if_neg Bool.false_ne_true]; exact ⟨_, _, rfl⟩⟩
 | some b =>
  obtain ⟨v, q⟩ := b
  have hv := uS_some e
  rw [opt3_some, if_pos rfl, Option.bind_some]
  by_cases h : v ≤ 1000
  ·rw [if_pos h]
   refine ⟨fun v' e' he => ?_, fun he => by cases he⟩
   injection he with he
   injection he with h1 h2
   subst h1 h2
   have := small1000 ⟨v.toNat, by omega⟩
   simp only [Int.toNat_of_nonneg hv.2.2.2.1] at this
   simp only [this, decide_eq_true h]
  ·rw [if_neg h]
   exact ⟨fun v e q => (by cases q), fun _ => (by rw [decide_eq_false h]; exact ⟨_, _, rfl⟩)⟩
theorem one_byte (s : ByteArray) (p : Int) (h0 : 0 ≤ p) (h1 : p + 1 ≤ (s.size : Int)) : ((s.extract p.toNat (p + 1).toNat).toList == (⟨#[2]⟩ : ByteArray).toList) = (bt s p == 2) := by
 have hs : (s.extract p.toNat (p + 1).toNat).size = 1 := by rw [ext_size _ _ _ (by omega) (by omega)]; omega
 have hb := bt_ext s p.toNat (p + 1).toNat 0 (by omega) (by omega) (by decide) (by omega)
 rw [show ((p.toNat : Int)) + 0 = p by omega] at hb
 rw [← hb]
 generalize s.extract p.toNat (p + 1).toNat = e at hs
 obtain ⟨⟨l⟩⟩ := e
 have hl : l.length = 1 := hs
 obtain ⟨b, rfl⟩ := List.length_eq_one_iff.mp hl
 rw [ByteArray.toList_eq, ByteArray.toList_eq]
 show ([b] == [2]) = (((b.toNat : Int)) == 2)
 by_cases h : b = 2
 ·subst h; rfl
 ·have h2 : ((b.toNat : Int)) ≠ 2 := fun q => h (by
   have q2 : b.toNat = 2 := by omega
   exact UInt8.toNat_inj.mp (by rw [q2]; rfl))
  rw [beq_false_of_ne h2, beq_false_of_ne (fun q => h (by injection q))]
end Go.Proofs.YtbgabhknmpbgiaaDoor.Pure
end
