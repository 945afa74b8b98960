/- SegmentSendsCard: one part of the proof that the law answers true for every input, and that its arguments read afterwards as before. No condition. -/
import Derived.Test.YtbgabhknmpbgiaaDoorCSends5
import Derived.Outline
import Derived.Deep.OwnRows
import Derived.Deep.MidRow
import Derived.LoopTactic
import Derived.ProofKit
import Derived.Deep.Slices
import Derived.SizedLaws
import Derived.OpenShut
import Derived.DataReads
import Derived.SevenTiedAt
import Derived.WalkKit
import Derived.ShutString
import Derived.ChangeOld
import Derived.Below
import Derived.Test.YtbgabhknmpbgiaaDoorCards
import Derived.Test.YtbgabhknmpbgiaaDoorRows
import Derived.Test.YtbgabhknmpbgiaaDoorTie
section
namespace Go.Proofs.YtbgabhknmpbgiaaDoor.S
open Go.RowKit Go.Proofs.YtbgabhknmpbgiaaDoorW.PrintWords Go.Proofs.YtbgabhknmpbgiaaDoorW.PrintLast Go.Proofs.YtbgabhknmpbgiaaDoorW.PrintMore
attribute [local go_sem] max2_int min2_int max_two min_two max_three min_three max_four min_four
set_option linter.unusedVariables false
set_option linter.unusedSimpArgs false
def codec_Reader_Bool.f (k : Nat) (s0_0 : ByteArray) (s0_1 : Int) (s0_2 : Int) : Option (Bool × ByteArray × Int × Int) := if s0_2 = 0 then ((codec_Reader_Bool_1.f k s0_0 s0_1).bind fun bt147 => (if bt147.2.2 = true then (some (bt147.1, s0_0, bt147.2.1, s0_2)) else (some (false, s0_0, s0_1, 2)))) else (some (false, s0_0, s0_1, s0_2))
def codec_Reader_Bool.T77004 : Bool × List (List Nat × List Nat) := (true, [([], []), ([], []), ([1], [1]), ([2], [2]), ([3], [3]), ([], []), ([5], [5]), ([6], [6]), ([7], [7]), ([0, 4, 8], [0, 4, 8]), ([9], [9]), ([10], [10]), ([10], [10]), ([10], [10]), ([11, 9, 0, 1, 2, 3, 4, 5, 6, 7, 8, 9, 10, 11], [11]), ([12, 14, 0, 1, 2, 3, 4, 5, 6, 7, 8, 9, 10, 11, 12, 14], [12]), ([13, 15, 0, 1, 2, 3, 4, 5, 6, 7, 8, 9, 10, 11, 12, 13, 14, 15], [13])])
def codec_Reader_Bool.B77004 : List Nat := [0, 0, 2, 6, 14, 0, 32, 96, 224, 511, 1023, 2047, 2047, 2047, 4095, 24575, 65535]
theorem codec_Reader_Bool.tab77004 : rtab .any (opsOf Tryd.f77 4) = codec_Reader_Bool.T77004 := by kernel_rfl
theorem codec_Reader_Bool.bits77004 : waitsOk codec_Reader_Bool.T77004.2 codec_Reader_Bool.B77004 = true := by kernel_rfl
set_option maxHeartbeats 8000000 in
set_option maxRecDepth 100000 in
theorem codec_Reader_Bool.calls (k : Nat) (g : Nat) (s0_0 : ByteArray) (s0_1 : Int) (s0_2 : Int) (r1 : Bool) (r2 : ByteArray) (r3 : Int) (r4 : Int) (w0 w : World) (hG : Glob w0) (hI : IsS119 w0 w g s0_0 s0_1 s0_2) (hB : Below w0.heap.size w0 w) (h : codec_Reader_Bool.f k s0_0 s0_1 s0_2 = some (r1, r2, r3, r4)) :
    Calls Tryd.prog 49 #[.pointer (some ⟨g, 0, none⟩)] w fun e w' => e = .returned (.bool r1) ∧ IsS119 w0 w' g r2 r3 r4 ∧ Below w0.heap.size w0 w' ∧ KeepBut w w' g none := by
  have hmf_ : ∀ (fn : Fn) (first cap : Array Value) (w : World), (Instr.makeFunc fn first cap).run Tryd.prog w = .ok (.func fn first cap) w := fun _ _ _ _ => rfl
  have HG := Aside0.mk hG
  clear hG
  have HI0 := Aside0.mk hI
  have HK := Aside0.mk (KeepBut.refl w g none)
  have HL := Aside0.mk hB.size
  clear hI
  have HW0 := Aside0.mk hB.size
  have HB := Aside0.mk hB
  clear hB
  have H : (if s0_2 = 0 then ((codec_Reader_Bool_1.f k s0_0 s0_1).bind fun bt147 => (if bt147.2.2 = true then (some (bt147.1, s0_0, bt147.2.1, s0_2)) else (some (false, s0_0, s0_1, 2)))) else (some (false, s0_0, s0_1, s0_2))) = some (r1, r2, r3, r4) := h
  clear h
  by_cases c2 : s0_2 = 0
  · rw [if_pos c2] at H
    have c2b0 : (s0_2 == 0) = true := beq_iff_eq.mpr c2
    have c2b1 : (s0_2 != 0) = false := bne_eq_false_iff_eq.mpr c2
    clear c2
    replace H := Option.bind_eq_some_iff.mp H
    obtain ⟨⟨t147, t148, t149⟩, A30, H⟩ := H
    replace H : (if t149 = true then (some (t147, s0_0, t148, s0_2)) else (some (false, s0_0, s0_1, 2))) = some (r1, r2, r3, r4) := H
    have A3 := Aside0.mk A30
    clear A30
    by_cases c4 : t149 = true
    · subst c4
      have H1 : (some (t147, s0_0, t148, s0_2)) = some (r1, r2, r3, r4) := by rw [if_pos rfl] at H; exact H
      clear H
      have H := H1
      clear H1
      simp only [Option.some.injEq, Prod.mk.injEq] at H
      obtain ⟨rfl, rfl, rfl, rfl⟩ := H
      obtain ⟨HGz5, hgz5⟩ := HI0.out
      have hcz5_0 := cellS119_0 HGz5
      have hcz5_1 := cellS119_1 HGz5
      have hcz5_2 := cellS119_2 HGz5
      have hfz5_0 := blk_frozen HGz5 0
      have hfz5_1 := blk_frozen HGz5 1
      have hfz5_2 := blk_frozen HGz5 2
      clear HGz5 hgz5
      go_enter Tryd.func49, Tryd.ntmps49
      try go_wp2_with (first | (go_at_call 77; go_in) | ((try simp only [Exit.inBlock, Exit.then]); refine bodyPost_end (results_none rfl _ _ _) rfl ?_; simp only []; go_at_K))
      have n0_ := Aside0.mk (IsS119.drew HI0.out)
      have n1_ := Aside0.mk (keep_drew HK.out)
      have n2_ := Aside0.mk (below_drew1 HB.out)
      clear HI0
      clear HK
      clear HB
      have HI0 := n0_
      have HK := n1_
      have HB := n2_
      clear n0_ n1_ n2_
      refine start_ (n := 17) (S := fun w' => w'.cell? ⟨g, 0, none⟩ = some (.string s0_0) ∧ w'.cell? ⟨g, 1, none⟩ = some (.int .i64 s0_1) ∧ w'.cell? ⟨g, 2, none⟩ = some (.int .i64 s0_2)) (ds := []) #[Yn, Yn, Yn, Yn, Yn, Yn, Yn, Yn, Yn, Yn, Yn, Yn, Yn, Yn, Yn, Yn, Yn] (by kernel_rfl) rfl rfl ⟨(blk_cell (Aside0.mk HI0.out.1).out 0).trans rfl, (blk_cell (Aside0.mk HI0.out.1).out 1).trans rfl, (blk_cell (Aside0.mk HI0.out.1).out 2).trans rfl⟩ (fun hHeld => ?_); refine with_tabW codec_Reader_Bool.tab77004 codec_Reader_Bool.bits77004 (fun HT_ HW_ => ?_)
      generalize w.drew = w6 at HI0 HK HB hHeld ⊢
      refine pure_ (i := 0) (N := some 16) (v := ?_) (a' := ?_) #[Y, Yn, Yn, Yn, Yn, Yn, Yn, Yn, Yn, Yn, Yn, Yn, Yn, Yn, Yn, Yn, Yn] rfl rfl (any_of HT_.out (by kernel_rfl)) (fun _ _ _ h => h) (Or.inl ⟨by rfl, ?_⟩) ?_ ?_
      rotate_left
      · intro w'
        go_simp
        with_reducible rfl
      rotate_left
      · simp only [Act.put, List.setIfInBounds_toArray, List.set_cons_zero, List.set_cons_succ, i64_w, i32_w]
        rfl
      refine pure_ (i := 1) (N := some 17) (v := ?_) (a' := ?_) #[Y, Y, Yn, Yn, Yn, Yn, Yn, Yn, Yn, Yn, Yn, Yn, Yn, Yn, Yn, Yn, Yn] rfl rfl (any_of HT_.out (by kernel_rfl)) (fun _ _ _ h => h) (Or.inl ⟨by rfl, ?_⟩) ?_ ?_
      rotate_left
      · intro w'
        go_simp
        with_reducible rfl
      rotate_left
      · simp only [Act.put, List.setIfInBounds_toArray, List.set_cons_zero, List.set_cons_succ, i64_w, i32_w]
        rfl
      refine pure_ (i := 2) (N := some 18) (v := ?_) (a' := ?_) #[Y, Y, Y, Yn, Yn, Yn, Yn, Yn, Yn, Yn, Yn, Yn, Yn, Yn, Yn, Yn, Yn] rfl rfl (any_of HT_.out (by kernel_rfl)) (fun _ _ _ h => h) (Or.inl ⟨by rfl, ?_⟩) ?_ ?_
      rotate_left
      · intro w'
        go_simp
        with_reducible rfl
      rotate_left
      · simp only [Act.put, List.setIfInBounds_toArray, List.set_cons_zero, List.set_cons_succ, i64_w, i32_w]
        rfl
      refine pure_ (i := 3) (N := some 19) (v := ?_) (a' := ?_) #[Y, Y, Y, Y, Yn, Yn, Yn, Yn, Yn, Yn, Yn, Yn, Yn, Yn, Yn, Yn, Yn] rfl rfl (any_of HT_.out (by kernel_rfl)) (fun _ _ _ h => h) (Or.inl ⟨by rfl, ?_⟩) ?_ ?_
      rotate_left
      · intro w'
        go_simp
        with_reducible rfl
      rotate_left
      · simp only [Act.put, List.setIfInBounds_toArray, List.set_cons_zero, List.set_cons_succ, i64_w, i32_w]
        rfl
      refine pure_ (i := 5) (N := some 21) (v := ?_) (a' := ?_) #[Y, Y, Y, Y, Yn, Y, Yn, Yn, Yn, Yn, Yn, Yn, Yn, Yn, Yn, Yn, Yn] rfl rfl (any_of HT_.out (by kernel_rfl)) (fun _ _ _ h => h) (Or.inl ⟨by rfl, ?_⟩) ?_ ?_
      rotate_left
      · intro w'
        go_simp
        with_reducible rfl
      rotate_left
      · simp only [Act.put, List.setIfInBounds_toArray, List.set_cons_zero, List.set_cons_succ, i64_w, i32_w]
        rfl
      refine pure_ (i := 6) (N := some 22) (v := ?_) (a' := ?_) #[Y, Y, Y, Y, Yn, Y, Y, Yn, Yn, Yn, Yn, Yn, Yn, Yn, Yn, Yn, Yn] rfl rfl (any_of HT_.out (by kernel_rfl)) (fun _ _ _ h => h) (Or.inl ⟨by rfl, ?_⟩) ?_ ?_
      rotate_left
      · intro w'
        go_simp
        with_reducible rfl
      rotate_left
      · simp only [Act.put, List.setIfInBounds_toArray, List.set_cons_zero, List.set_cons_succ, i64_w, i32_w]
        rfl
      refine pure_ (i := 7) (N := some 23) (v := ?_) (a' := ?_) #[Y, Y, Y, Y, Yn, Y, Y, Y, Yn, Yn, Yn, Yn, Yn, Yn, Yn, Yn, Yn] rfl rfl (any_of HT_.out (by kernel_rfl)) (fun _ _ _ h => h) (Or.inl ⟨by rfl, ?_⟩) ?_ ?_
      rotate_left
      · intro w'
        go_simp
        with_reducible rfl
      rotate_left
      · simp only [Act.put, List.setIfInBounds_toArray, List.set_cons_zero, List.set_cons_succ, i64_w, i32_w]
        rfl
      refine take_ (i := 4) (N := some 20) (v := ?_) (a' := ?_) #[Y, Y, Y, Y, Y, Y, Y, Y, Yn, Yn, Yn, Yn, Yn, Yn, Yn, Yn, Yn] rfl rfl (take_ofW HT_.out HW_.out (by kernel_rfl)) (fun _ _ _ h => h) (Or.inl ⟨by rfl, ?_⟩) hHeld ?_ ?_
      rotate_left
      · rintro w' ⟨s0, s1, s2⟩
        go_simp
        with_reducible rfl
      rotate_left
      · simp only [Act.put, List.setIfInBounds_toArray, List.set_cons_zero, List.set_cons_succ, i64_w, i32_w]
        rfl
      refine take_ (i := 8) (N := some 24) (v := ?_) (a' := ?_) #[Y, Y, Y, Y, Y, Y, Y, Y, Y, Yn, Yn, Yn, Yn, Yn, Yn, Yn, Yn] rfl rfl (take_ofW HT_.out HW_.out (by kernel_rfl)) (fun _ _ _ h => h) (Or.inl ⟨by rfl, ?_⟩) hHeld ?_ ?_
      rotate_left
      · rintro w' ⟨s0, s1, s2⟩
        go_simp
        with_reducible rfl
      rotate_left
      · simp only [Act.put, List.setIfInBounds_toArray, List.set_cons_zero, List.set_cons_succ, i64_w, i32_w]
        rfl
      refine one_ (i := 9) (N := some 25) #[Y, Y, Y, Y, Y, Y, Y, Y, Y, Y, Yn, Yn, Yn, Yn, Yn, Yn, Yn] rfl rfl (one_of HT_.out (by kernel_rfl)) (by decide) (fun K hK => ?_)
      refine goesT_ Tryd.func78 (by kernel_rfl) rfl #[.string s0_0, .int .i64 s0_1] (by rfl) rfl rfl rfl (by (try simp only [List.map_toArray, List.map_cons, List.map_nil]); first | done | rfl | (simp only [List.length_drop, List.length_take]; rfl)) ?_
      with_reducible refine (codec_Reader_Bool_1.calls k s0_0 s0_1 t147 t148 true _ ?side99  A3.out).mono ?_
      (case side99 => first | exact HG.out | exact Glob.below HG.out (by repeat (first | (with_reducible first | exact HB.out | apply below_alloc | apply pw_below_drewN | apply below_drew1 | refine below_set ?_ (IsS119.ge HI0.out)) | exact HB.out)))
      rintro e w' ⟨rfl, ⟨nd, rfl⟩⟩
      refine ⟨_, rfl, ?_⟩
      refine hK.out _ _ ⟨(blk_cell (Aside0.mk HI0.out.1).out 0).trans rfl, (blk_cell (Aside0.mk HI0.out.1).out 1).trans rfl, (blk_cell (Aside0.mk HI0.out.1).out 2).trans rfl⟩ (fun hHeld => ?_)
      clear hK K
      refine norm_ (a' := ?_) ?_ ?_
      rotate_left
      · show Act.put _ (some 25) _ = _
        simp only [Act.put, List.setIfInBounds_toArray, List.set_cons_zero, List.set_cons_succ, i64_w, i32_w]
        rfl
      refine pure_ (i := 10) (N := some 15) (v := ?_) (a' := ?_) #[Y, Y, Y, Y, Y, Y, Y, Y, Y, Y, Y, Yn, Yn, Yn, Yn, Yn, Yn] rfl rfl (any_of HT_.out (by kernel_rfl)) (fun _ _ _ h => h) (Or.inl ⟨by rfl, ?_⟩) ?_ ?_
      rotate_left
      · intro w'
        go_simp
        with_reducible rfl
      rotate_left
      · simp only [Act.put, List.setIfInBounds_toArray, List.set_cons_zero, List.set_cons_succ, i64_w, i32_w]
        rfl
      refine pure_ (i := 11) (N := some 26) (v := ?_) (a' := ?_) #[Y, Y, Y, Y, Y, Y, Y, Y, Y, Y, Y, Y, Yn, Yn, Yn, Yn, Yn] rfl rfl (any_of HT_.out (by kernel_rfl)) (fun _ _ _ h => h) (Or.inl ⟨by rfl, ?_⟩) ?_ ?_
      rotate_left
      · intro w'
        go_simp
        with_reducible rfl
      rotate_left
      · simp only [Act.put, List.setIfInBounds_toArray, List.set_cons_zero, List.set_cons_succ, i64_w, i32_w]
        rfl
      refine pure_ (i := 12) (N := some 27) (v := ?_) (a' := ?_) #[Y, Y, Y, Y, Y, Y, Y, Y, Y, Y, Y, Y, Y, Yn, Yn, Yn, Yn] rfl rfl (any_of HT_.out (by kernel_rfl)) (fun _ _ _ h => h) (Or.inl ⟨by rfl, ?_⟩) ?_ ?_
      rotate_left
      · intro w'
        go_simp
        with_reducible rfl
      rotate_left
      · simp only [Act.put, List.setIfInBounds_toArray, List.set_cons_zero, List.set_cons_succ, i64_w, i32_w]
        rfl
      refine pure_ (i := 13) (N := some 28) (v := ?_) (a' := ?_) #[Y, Y, Y, Y, Y, Y, Y, Y, Y, Y, Y, Y, Y, Y, Yn, Yn, Yn] rfl rfl (any_of HT_.out (by kernel_rfl)) (fun _ _ _ h => h) (Or.inl ⟨by rfl, ?_⟩) ?_ ?_
      rotate_left
      · intro w'
        go_simp
        with_reducible rfl
      rotate_left
      · simp only [Act.put, List.setIfInBounds_toArray, List.set_cons_zero, List.set_cons_succ, i64_w, i32_w]
        rfl
      refine pure_ (i := 14) (N := some 6) (v := ?_) (a' := ?_) #[Y, Y, Y, Y, Y, Y, Y, Y, Y, Y, Y, Y, Y, Y, Y, Yn, Yn] rfl rfl (any_of HT_.out (by kernel_rfl)) (fun _ _ _ h => h) (Or.inl ⟨by rfl, ?_⟩) ?_ ?_
      rotate_left
      · intro w'
        go_simp
        with_reducible rfl
      rotate_left
      · simp only [Act.put, List.setIfInBounds_toArray, List.set_cons_zero, List.set_cons_succ, i64_w, i32_w]
        rfl
      refine pure_ (i := 15) (N := some 7) (v := ?_) (a' := ?_) #[Y, Y, Y, Y, Y, Y, Y, Y, Y, Y, Y, Y, Y, Y, Y, Y, Yn] rfl rfl (any_of HT_.out (by kernel_rfl)) (fun _ _ _ h => h) (Or.inl ⟨by rfl, ?_⟩) ?_ ?_
      rotate_left
      · intro w'
        go_simp
        with_reducible rfl
      rotate_left
      · simp only [Act.put, List.setIfInBounds_toArray, List.set_cons_zero, List.set_cons_succ, i64_w, i32_w]
        rfl
      refine pure_ (i := 16) (N := some 8) (v := ?_) (a' := ?_) #[Y, Y, Y, Y, Y, Y, Y, Y, Y, Y, Y, Y, Y, Y, Y, Y, Y] rfl rfl (any_of HT_.out (by kernel_rfl)) (fun _ _ _ h => h) (Or.inl ⟨by rfl, ?_⟩) ?_ ?_
      rotate_left
      · intro w'
        go_simp
        with_reducible rfl
      rotate_left
      · simp only [Act.put, List.setIfInBounds_toArray, List.set_cons_zero, List.set_cons_succ, i64_w, i32_w]
        rfl
      refine done_ (done_of HT_.out (by kernel_rfl)) ?_
      obtain ⟨HGz7, hgz7⟩ := HI0.out
      have hcz7_0 := cellS119_0 HGz7
      have hcz7_1 := cellS119_1 HGz7
      have hcz7_2 := cellS119_2 HGz7
      have hfz7_0 := blk_frozen HGz7 0
      have hfz7_1 := blk_frozen HGz7 1
      have hfz7_2 := blk_frozen HGz7 2
      clear HGz7 hgz7
      try go_wp2_with (first | (go_at_call 77; go_in) | ((try simp only [Exit.inBlock, Exit.then]); refine bodyPost_end (results_none rfl _ _ _) rfl ?_; simp only []; go_at_K))
      go_ret
      exact ⟨by first | rfl | (simp [errW_none, errW_some] <;> rfl) | (simp [*, errW_none, errW_some] <;> rfl), by repeat (first | (with_reducible first | exact HI0.out | apply IsS119.alloc | apply IsS119.drewN | apply IsS119.drew | apply IsS119.set_0 | apply IsS119.set_1 | apply IsS119.set_2) | exact HI0.out), by repeat (first | (with_reducible first | exact HB.out | apply below_alloc | apply pw_below_drewN | apply below_drew1 | refine below_set ?_ (IsS119.ge HI0.out)) | exact HB.out), by repeat (first | (with_reducible first | exact HK.out | apply KeepBut.set_ | apply keep_drewN | apply keep_drew | apply keep_alloc) | exact HK.out)⟩
    · replace c4 := Bool.eq_false_iff.mpr c4
      subst c4
      have H1 : (some (false, s0_0, s0_1, 2)) = some (r1, r2, r3, r4) := by rw [if_neg (show ¬ (false = true) by decide)] at H; exact H
      clear H
      have H := H1
      clear H1
      simp only [Option.some.injEq, Prod.mk.injEq] at H
      obtain ⟨rfl, rfl, rfl, rfl⟩ := H
      obtain ⟨HGz8, hgz8⟩ := HI0.out
      have hcz8_0 := cellS119_0 HGz8
      have hcz8_1 := cellS119_1 HGz8
      have hcz8_2 := cellS119_2 HGz8
      have hfz8_0 := blk_frozen HGz8 0
      have hfz8_1 := blk_frozen HGz8 1
      have hfz8_2 := blk_frozen HGz8 2
      clear HGz8 hgz8
      go_enter Tryd.func49, Tryd.ntmps49
      try go_wp2_with (first | (go_at_call 77; go_in) | ((try simp only [Exit.inBlock, Exit.then]); refine bodyPost_end (results_none rfl _ _ _) rfl ?_; simp only []; go_at_K))
      have n0_ := Aside0.mk (IsS119.drew HI0.out)
      have n1_ := Aside0.mk (keep_drew HK.out)
      have n2_ := Aside0.mk (below_drew1 HB.out)
      clear HI0
      clear HK
      clear HB
      have HI0 := n0_
      have HK := n1_
      have HB := n2_
      clear n0_ n1_ n2_
      refine start_ (n := 17) (S := fun w' => w'.cell? ⟨g, 0, none⟩ = some (.string s0_0) ∧ w'.cell? ⟨g, 1, none⟩ = some (.int .i64 s0_1) ∧ w'.cell? ⟨g, 2, none⟩ = some (.int .i64 s0_2)) (ds := []) #[Yn, Yn, Yn, Yn, Yn, Yn, Yn, Yn, Yn, Yn, Yn, Yn, Yn, Yn, Yn, Yn, Yn] (by kernel_rfl) rfl rfl ⟨(blk_cell (Aside0.mk HI0.out.1).out 0).trans rfl, (blk_cell (Aside0.mk HI0.out.1).out 1).trans rfl, (blk_cell (Aside0.mk HI0.out.1).out 2).trans rfl⟩ (fun hHeld => ?_); refine with_tabW codec_Reader_Bool.tab77004 codec_Reader_Bool.bits77004 (fun HT_ HW_ => ?_)
      generalize w.drew = w9 at HI0 HK HB hHeld ⊢
      refine pure_ (i := 0) (N := some 16) (v := ?_) (a' := ?_) #[Y, Yn, Yn, Yn, Yn, Yn, Yn, Yn, Yn, Yn, Yn, Yn, Yn, Yn, Yn, Yn, Yn] rfl rfl (any_of HT_.out (by kernel_rfl)) (fun _ _ _ h => h) (Or.inl ⟨by rfl, ?_⟩) ?_ ?_
      rotate_left
      · intro w'
        go_simp
        with_reducible rfl
      rotate_left
      · simp only [Act.put, List.setIfInBounds_toArray, List.set_cons_zero, List.set_cons_succ, i64_w, i32_w]
        rfl
      refine pure_ (i := 1) (N := some 17) (v := ?_) (a' := ?_) #[Y, Y, Yn, Yn, Yn, Yn, Yn, Yn, Yn, Yn, Yn, Yn, Yn, Yn, Yn, Yn, Yn] rfl rfl (any_of HT_.out (by kernel_rfl)) (fun _ _ _ h => h) (Or.inl ⟨by rfl, ?_⟩) ?_ ?_
      rotate_left
      · intro w'
        go_simp
        with_reducible rfl
      rotate_left
      · simp only [Act.put, List.setIfInBounds_toArray, List.set_cons_zero, List.set_cons_succ, i64_w, i32_w]
        rfl
      refine pure_ (i := 2) (N := some 18) (v := ?_) (a' := ?_) #[Y, Y, Y, Yn, Yn, Yn, Yn, Yn, Yn, Yn, Yn, Yn, Yn, Yn, Yn, Yn, Yn] rfl rfl (any_of HT_.out (by kernel_rfl)) (fun _ _ _ h => h) (Or.inl ⟨by rfl, ?_⟩) ?_ ?_
      rotate_left
      · intro w'
        go_simp
        with_reducible rfl
      rotate_left
      · simp only [Act.put, List.setIfInBounds_toArray, List.set_cons_zero, List.set_cons_succ, i64_w, i32_w]
        rfl
      refine pure_ (i := 3) (N := some 19) (v := ?_) (a' := ?_) #[Y, Y, Y, Y, Yn, Yn, Yn, Yn, Yn, Yn, Yn, Yn, Yn, Yn, Yn, Yn, Yn] rfl rfl (any_of HT_.out (by kernel_rfl)) (fun _ _ _ h => h) (Or.inl ⟨by rfl, ?_⟩) ?_ ?_
      rotate_left
      · intro w'
        go_simp
        with_reducible rfl
      rotate_left
      · simp only [Act.put, List.setIfInBounds_toArray, List.set_cons_zero, List.set_cons_succ, i64_w, i32_w]
        rfl
      refine pure_ (i := 5) (N := some 21) (v := ?_) (a' := ?_) #[Y, Y, Y, Y, Yn, Y, Yn, Yn, Yn, Yn, Yn, Yn, Yn, Yn, Yn, Yn, Yn] rfl rfl (any_of HT_.out (by kernel_rfl)) (fun _ _ _ h => h) (Or.inl ⟨by rfl, ?_⟩) ?_ ?_
      rotate_left
      · intro w'
        go_simp
        with_reducible rfl
      rotate_left
      · simp only [Act.put, List.setIfInBounds_toArray, List.set_cons_zero, List.set_cons_succ, i64_w, i32_w]
        rfl
      refine pure_ (i := 6) (N := some 22) (v := ?_) (a' := ?_) #[Y, Y, Y, Y, Yn, Y, Y, Yn, Yn, Yn, Yn, Yn, Yn, Yn, Yn, Yn, Yn] rfl rfl (any_of HT_.out (by kernel_rfl)) (fun _ _ _ h => h) (Or.inl ⟨by rfl, ?_⟩) ?_ ?_
      rotate_left
      · intro w'
        go_simp
        with_reducible rfl
      rotate_left
      · simp only [Act.put, List.setIfInBounds_toArray, List.set_cons_zero, List.set_cons_succ, i64_w, i32_w]
        rfl
      refine pure_ (i := 7) (N := some 23) (v := ?_) (a' := ?_) #[Y, Y, Y, Y, Yn, Y, Y, Y, Yn, Yn, Yn, Yn, Yn, Yn, Yn, Yn, Yn] rfl rfl (any_of HT_.out (by kernel_rfl)) (fun _ _ _ h => h) (Or.inl ⟨by rfl, ?_⟩) ?_ ?_
      rotate_left
      · intro w'
        go_simp
        with_reducible rfl
      rotate_left
      · simp only [Act.put, List.setIfInBounds_toArray, List.set_cons_zero, List.set_cons_succ, i64_w, i32_w]
        rfl
      refine take_ (i := 4) (N := some 20) (v := ?_) (a' := ?_) #[Y, Y, Y, Y, Y, Y, Y, Y, Yn, Yn, Yn, Yn, Yn, Yn, Yn, Yn, Yn] rfl rfl (take_ofW HT_.out HW_.out (by kernel_rfl)) (fun _ _ _ h => h) (Or.inl ⟨by rfl, ?_⟩) hHeld ?_ ?_
      rotate_left
      · rintro w' ⟨s0, s1, s2⟩
        go_simp
        with_reducible rfl
      rotate_left
      · simp only [Act.put, List.setIfInBounds_toArray, List.set_cons_zero, List.set_cons_succ, i64_w, i32_w]
        rfl
      refine take_ (i := 8) (N := some 24) (v := ?_) (a' := ?_) #[Y, Y, Y, Y, Y, Y, Y, Y, Y, Yn, Yn, Yn, Yn, Yn, Yn, Yn, Yn] rfl rfl (take_ofW HT_.out HW_.out (by kernel_rfl)) (fun _ _ _ h => h) (Or.inl ⟨by rfl, ?_⟩) hHeld ?_ ?_
      rotate_left
      · rintro w' ⟨s0, s1, s2⟩
        go_simp
        with_reducible rfl
      rotate_left
      · simp only [Act.put, List.setIfInBounds_toArray, List.set_cons_zero, List.set_cons_succ, i64_w, i32_w]
        rfl
      refine one_ (i := 9) (N := some 25) #[Y, Y, Y, Y, Y, Y, Y, Y, Y, Y, Yn, Yn, Yn, Yn, Yn, Yn, Yn] rfl rfl (one_of HT_.out (by kernel_rfl)) (by decide) (fun K hK => ?_)
      refine goesT_ Tryd.func78 (by kernel_rfl) rfl #[.string s0_0, .int .i64 s0_1] (by rfl) rfl rfl rfl (by (try simp only [List.map_toArray, List.map_cons, List.map_nil]); first | done | rfl | (simp only [List.length_drop, List.length_take]; rfl)) ?_
      with_reducible refine (codec_Reader_Bool_1.calls k s0_0 s0_1 t147 t148 false _ ?side99  A3.out).mono ?_
      (case side99 => first | exact HG.out | exact Glob.below HG.out (by repeat (first | (with_reducible first | exact HB.out | apply below_alloc | apply pw_below_drewN | apply below_drew1 | refine below_set ?_ (IsS119.ge HI0.out)) | exact HB.out)))
      rintro e w' ⟨rfl, ⟨nd, rfl⟩⟩
      refine ⟨_, rfl, ?_⟩
      refine hK.out _ _ ⟨(blk_cell (Aside0.mk HI0.out.1).out 0).trans rfl, (blk_cell (Aside0.mk HI0.out.1).out 1).trans rfl, (blk_cell (Aside0.mk HI0.out.1).out 2).trans rfl⟩ (fun hHeld => ?_)
      clear hK K
      refine norm_ (a' := ?_) ?_ ?_
      rotate_left
      · show Act.put _ (some 25) _ = _
        simp only [Act.put, List.setIfInBounds_toArray, List.set_cons_zero, List.set_cons_succ, i64_w, i32_w]
        rfl
      refine pure_ (i := 10) (N := some 15) (v := ?_) (a' := ?_) #[Y, Y, Y, Y, Y, Y, Y, Y, Y, Y, Y, Yn, Yn, Yn, Yn, Yn, Yn] rfl rfl (any_of HT_.out (by kernel_rfl)) (fun _ _ _ h => h) (Or.inl ⟨by rfl, ?_⟩) ?_ ?_
      rotate_left
      · intro w'
        go_simp
        with_reducible rfl
      rotate_left
      · simp only [Act.put, List.setIfInBounds_toArray, List.set_cons_zero, List.set_cons_succ, i64_w, i32_w]
        rfl
      refine pure_ (i := 11) (N := some 26) (v := ?_) (a' := ?_) #[Y, Y, Y, Y, Y, Y, Y, Y, Y, Y, Y, Y, Yn, Yn, Yn, Yn, Yn] rfl rfl (any_of HT_.out (by kernel_rfl)) (fun _ _ _ h => h) (Or.inl ⟨by rfl, ?_⟩) ?_ ?_
      rotate_left
      · intro w'
        go_simp
        with_reducible rfl
      rotate_left
      · simp only [Act.put, List.setIfInBounds_toArray, List.set_cons_zero, List.set_cons_succ, i64_w, i32_w]
        rfl
      refine pure_ (i := 12) (N := some 27) (v := ?_) (a' := ?_) #[Y, Y, Y, Y, Y, Y, Y, Y, Y, Y, Y, Y, Y, Yn, Yn, Yn, Yn] rfl rfl (any_of HT_.out (by kernel_rfl)) (fun _ _ _ h => h) (Or.inl ⟨by rfl, ?_⟩) ?_ ?_
      rotate_left
      · intro w'
        go_simp
        with_reducible rfl
      rotate_left
      · simp only [Act.put, List.setIfInBounds_toArray, List.set_cons_zero, List.set_cons_succ, i64_w, i32_w]
        rfl
      refine pure_ (i := 13) (N := some 28) (v := ?_) (a' := ?_) #[Y, Y, Y, Y, Y, Y, Y, Y, Y, Y, Y, Y, Y, Y, Yn, Yn, Yn] rfl rfl (any_of HT_.out (by kernel_rfl)) (fun _ _ _ h => h) (Or.inl ⟨by rfl, ?_⟩) ?_ ?_
      rotate_left
      · intro w'
        go_simp
        with_reducible rfl
      rotate_left
      · simp only [Act.put, List.setIfInBounds_toArray, List.set_cons_zero, List.set_cons_succ, i64_w, i32_w]
        rfl
      refine pure_ (i := 14) (N := some 6) (v := ?_) (a' := ?_) #[Y, Y, Y, Y, Y, Y, Y, Y, Y, Y, Y, Y, Y, Y, Y, Yn, Yn] rfl rfl (any_of HT_.out (by kernel_rfl)) (fun _ _ _ h => h) (Or.inl ⟨by rfl, ?_⟩) ?_ ?_
      rotate_left
      · intro w'
        go_simp
        with_reducible rfl
      rotate_left
      · simp only [Act.put, List.setIfInBounds_toArray, List.set_cons_zero, List.set_cons_succ, i64_w, i32_w]
        rfl
      refine pure_ (i := 15) (N := some 7) (v := ?_) (a' := ?_) #[Y, Y, Y, Y, Y, Y, Y, Y, Y, Y, Y, Y, Y, Y, Y, Y, Yn] rfl rfl (any_of HT_.out (by kernel_rfl)) (fun _ _ _ h => h) (Or.inl ⟨by rfl, ?_⟩) ?_ ?_
      rotate_left
      · intro w'
        go_simp
        with_reducible rfl
      rotate_left
      · simp only [Act.put, List.setIfInBounds_toArray, List.set_cons_zero, List.set_cons_succ, i64_w, i32_w]
        rfl
      refine pure_ (i := 16) (N := some 8) (v := ?_) (a' := ?_) #[Y, Y, Y, Y, Y, Y, Y, Y, Y, Y, Y, Y, Y, Y, Y, Y, Y] rfl rfl (any_of HT_.out (by kernel_rfl)) (fun _ _ _ h => h) (Or.inl ⟨by rfl, ?_⟩) ?_ ?_
      rotate_left
      · intro w'
        go_simp
        with_reducible rfl
      rotate_left
      · simp only [Act.put, List.setIfInBounds_toArray, List.set_cons_zero, List.set_cons_succ, i64_w, i32_w]
        rfl
      refine done_ (done_of HT_.out (by kernel_rfl)) ?_
      obtain ⟨HGz10, hgz10⟩ := HI0.out
      have hcz10_0 := cellS119_0 HGz10
      have hcz10_1 := cellS119_1 HGz10
      have hcz10_2 := cellS119_2 HGz10
      have hfz10_0 := blk_frozen HGz10 0
      have hfz10_1 := blk_frozen HGz10 1
      have hfz10_2 := blk_frozen HGz10 2
      clear HGz10 hgz10
      try go_wp2_with (first | (go_at_call 77; go_in) | ((try simp only [Exit.inBlock, Exit.then]); refine bodyPost_end (results_none rfl _ _ _) rfl ?_; simp only []; go_at_K))
      go_ret
      exact ⟨by first | rfl | (simp [errW_none, errW_some] <;> rfl) | (simp [*, errW_none, errW_some] <;> rfl), by repeat (first | (with_reducible first | exact HI0.out | apply IsS119.alloc | apply IsS119.drewN | apply IsS119.drew | apply IsS119.set_0 | apply IsS119.set_1 | apply IsS119.set_2) | exact HI0.out), by repeat (first | (with_reducible first | exact HB.out | apply below_alloc | apply pw_below_drewN | apply below_drew1 | refine below_set ?_ (IsS119.ge HI0.out)) | exact HB.out), by repeat (first | (with_reducible first | exact HK.out | apply KeepBut.set_ | apply keep_drewN | apply keep_drew | apply keep_alloc) | exact HK.out)⟩
  · rw [if_neg c2] at H
    have c2b0 : (s0_2 == 0) = false := beq_eq_false_iff_ne.mpr c2
    have c2b1 : (s0_2 != 0) = true := bne_iff_ne.mpr c2
    simp only [Option.some.injEq, Prod.mk.injEq] at H
    obtain ⟨rfl, rfl, rfl, rfl⟩ := H
    obtain ⟨HGz11, hgz11⟩ := HI0.out
    have hcz11_0 := cellS119_0 HGz11
    have hcz11_1 := cellS119_1 HGz11
    have hcz11_2 := cellS119_2 HGz11
    have hfz11_0 := blk_frozen HGz11 0
    have hfz11_1 := blk_frozen HGz11 1
    have hfz11_2 := blk_frozen HGz11 2
    clear HGz11 hgz11
    go_enter Tryd.func49, Tryd.ntmps49
    go_wp2_with (first | (go_at_call 77; go_in) | ((try simp only [Exit.inBlock, Exit.then]); refine bodyPost_end (results_none rfl _ _ _) rfl ?_; simp only []; go_at_K))
    go_ret
    exact ⟨by first | rfl | (simp [errW_none, errW_some] <;> rfl) | (simp [*, errW_none, errW_some] <;> rfl), by repeat (first | (with_reducible first | exact HI0.out | apply IsS119.alloc | apply IsS119.drewN | apply IsS119.drew | apply IsS119.set_0 | apply IsS119.set_1 | apply IsS119.set_2) | exact HI0.out), by repeat (first | (with_reducible first | exact HB.out | apply below_alloc | apply pw_below_drewN | apply below_drew1 | refine below_set ?_ (IsS119.ge HI0.out)) | exact HB.out), by repeat (first | (with_reducible first | exact HK.out | apply KeepBut.set_ | apply keep_drewN | apply keep_drew | apply keep_alloc) | exact HK.out)⟩
end Go.Proofs.YtbgabhknmpbgiaaDoor.S
end
section
namespace Go.Proofs.YtbgabhknmpbgiaaDoor.S
open Go.RowKit Go.Proofs.YtbgabhknmpbgiaaDoorW.PrintWords Go.Proofs.YtbgabhknmpbgiaaDoorW.PrintLast Go.Proofs.YtbgabhknmpbgiaaDoorW.PrintMore
attribute [local go_sem] max2_int min2_int max_two min_two max_three min_three max_four min_four
set_option linter.unusedVariables false
set_option linter.unusedSimpArgs false
def codec_Reader_Text.f (k : Nat) (s0_0 : ByteArray) (s0_1 : Int) (s0_2 : Int) : Option (ByteArray × ByteArray × Int × Int) := if s0_2 = 0 then ((codec_text.f k s0_0 s0_1).bind fun bt154 => (if bt154.2.2 = true then (some (bt154.1, s0_0, bt154.2.1, s0_2)) else (some ((⟨#[]⟩ : ByteArray), s0_0, s0_1, 2)))) else (some ((⟨#[]⟩ : ByteArray), s0_0, s0_1, s0_2))
def codec_Reader_Text.T80004 : Bool × List (List Nat × List Nat) := (true, [([], []), ([], []), ([1], [1]), ([2], [2]), ([3], [3]), ([], []), ([5], [5]), ([6], [6]), ([7], [7]), ([0, 4, 8], [0, 4, 8]), ([9], [9]), ([10], [10]), ([10], [10]), ([10], [10]), ([11, 9, 0, 1, 2, 3, 4, 5, 6, 7, 8, 9, 10, 11], [11]), ([12, 14, 0, 1, 2, 3, 4, 5, 6, 7, 8, 9, 10, 11, 12, 14], [12]), ([13, 15, 0, 1, 2, 3, 4, 5, 6, 7, 8, 9, 10, 11, 12, 13, 14, 15], [13])])
def codec_Reader_Text.B80004 : List Nat := [0, 0, 2, 6, 14, 0, 32, 96, 224, 511, 1023, 2047, 2047, 2047, 4095, 24575, 65535]
theorem codec_Reader_Text.tab80004 : rtab .any (opsOf Tryd.f80 4) = codec_Reader_Text.T80004 := by kernel_rfl
theorem codec_Reader_Text.bits80004 : waitsOk codec_Reader_Text.T80004.2 codec_Reader_Text.B80004 = true := by kernel_rfl
set_option maxHeartbeats 8000000 in
set_option maxRecDepth 100000 in
theorem codec_Reader_Text.calls (k : Nat) (g : Nat) (s0_0 : ByteArray) (s0_1 : Int) (s0_2 : Int) (r1 : ByteArray) (r2 : ByteArray) (r3 : Int) (r4 : Int) (w0 w : World) (hG : Glob w0) (hI : IsS119 w0 w g s0_0 s0_1 s0_2) (hB : Below w0.heap.size w0 w) (h : codec_Reader_Text.f k s0_0 s0_1 s0_2 = some (r1, r2, r3, r4)) :
    Calls Tryd.prog 50 #[.pointer (some ⟨g, 0, none⟩)] w fun e w' => e = .returned (.string r1) ∧ IsS119 w0 w' g r2 r3 r4 ∧ Below w0.heap.size w0 w' ∧ KeepBut w w' g none := by
  have hmf_ : ∀ (fn : Fn) (first cap : Array Value) (w : World), (Instr.makeFunc fn first cap).run Tryd.prog w = .ok (.func fn first cap) w := fun _ _ _ _ => rfl
  have HG := Aside0.mk hG
  clear hG
  have HI0 := Aside0.mk hI
  have HK := Aside0.mk (KeepBut.refl w g none)
  have HL := Aside0.mk hB.size
  clear hI
  have HW0 := Aside0.mk hB.size
  have HB := Aside0.mk hB
  clear hB
  have H : (if s0_2 = 0 then ((codec_text.f k s0_0 s0_1).bind fun bt154 => (if bt154.2.2 = true then (some (bt154.1, s0_0, bt154.2.1, s0_2)) else (some ((⟨#[]⟩ : ByteArray), s0_0, s0_1, 2)))) else (some ((⟨#[]⟩ : ByteArray), s0_0, s0_1, s0_2))) = some (r1, r2, r3, r4) := h
  clear h
  by_cases c2 : s0_2 = 0
  · rw [if_pos c2] at H
    have c2b0 : (s0_2 == 0) = true := beq_iff_eq.mpr c2
    have c2b1 : (s0_2 != 0) = false := bne_eq_false_iff_eq.mpr c2
    clear c2
    replace H := Option.bind_eq_some_iff.mp H
    obtain ⟨⟨t154, t155, t156⟩, A30, H⟩ := H
    replace H : (if t156 = true then (some (t154, s0_0, t155, s0_2)) else (some ((⟨#[]⟩ : ByteArray), s0_0, s0_1, 2))) = some (r1, r2, r3, r4) := H
    have A3 := Aside0.mk A30
    clear A30
    by_cases c4 : t156 = true
    · subst c4
      have H1 : (some (t154, s0_0, t155, s0_2)) = some (r1, r2, r3, r4) := by rw [if_pos rfl] at H; exact H
      clear H
      have H := H1
      clear H1
      simp only [Option.some.injEq, Prod.mk.injEq] at H
      obtain ⟨rfl, rfl, rfl, rfl⟩ := H
      obtain ⟨HGz5, hgz5⟩ := HI0.out
      have hcz5_0 := cellS119_0 HGz5
      have hcz5_1 := cellS119_1 HGz5
      have hcz5_2 := cellS119_2 HGz5
      have hfz5_0 := blk_frozen HGz5 0
      have hfz5_1 := blk_frozen HGz5 1
      have hfz5_2 := blk_frozen HGz5 2
      clear HGz5 hgz5
      go_enter Tryd.func50, Tryd.ntmps50
      try go_wp2_with (first | (go_at_call 80; go_in) | ((try simp only [Exit.inBlock, Exit.then]); refine bodyPost_end (results_none rfl _ _ _) rfl ?_; simp only []; go_at_K))
      have n0_ := Aside0.mk (IsS119.drew HI0.out)
      have n1_ := Aside0.mk (keep_drew HK.out)
      have n2_ := Aside0.mk (below_drew1 HB.out)
      clear HI0
      clear HK
      clear HB
      have HI0 := n0_
      have HK := n1_
      have HB := n2_
      clear n0_ n1_ n2_
      refine start_ (n := 17) (S := fun w' => w'.cell? ⟨g, 0, none⟩ = some (.string s0_0) ∧ w'.cell? ⟨g, 1, none⟩ = some (.int .i64 s0_1) ∧ w'.cell? ⟨g, 2, none⟩ = some (.int .i64 s0_2)) (ds := []) #[Yn, Yn, Yn, Yn, Yn, Yn, Yn, Yn, Yn, Yn, Yn, Yn, Yn, Yn, Yn, Yn, Yn] (by kernel_rfl) rfl rfl ⟨(blk_cell (Aside0.mk HI0.out.1).out 0).trans rfl, (blk_cell (Aside0.mk HI0.out.1).out 1).trans rfl, (blk_cell (Aside0.mk HI0.out.1).out 2).trans rfl⟩ (fun hHeld => ?_); refine with_tabW codec_Reader_Text.tab80004 codec_Reader_Text.bits80004 (fun HT_ HW_ => ?_)
      generalize w.drew = w6 at HI0 HK HB hHeld ⊢
      refine pure_ (i := 0) (N := some 16) (v := ?_) (a' := ?_) #[Y, Yn, Yn, Yn, Yn, Yn, Yn, Yn, Yn, Yn, Yn, Yn, Yn, Yn, Yn, Yn, Yn] rfl rfl (any_of HT_.out (by kernel_rfl)) (fun _ _ _ h => h) (Or.inl ⟨by rfl, ?_⟩) ?_ ?_
      rotate_left
      · intro w'
        go_simp
        with_reducible rfl
      rotate_left
      · simp only [Act.put, List.setIfInBounds_toArray, List.set_cons_zero, List.set_cons_succ, i64_w, i32_w]
        rfl
      refine pure_ (i := 1) (N := some 17) (v := ?_) (a' := ?_) #[Y, Y, Yn, Yn, Yn, Yn, Yn, Yn, Yn, Yn, Yn, Yn, Yn, Yn, Yn, Yn, Yn] rfl rfl (any_of HT_.out (by kernel_rfl)) (fun _ _ _ h => h) (Or.inl ⟨by rfl, ?_⟩) ?_ ?_
      rotate_left
      · intro w'
        go_simp
        with_reducible rfl
      rotate_left
      · simp only [Act.put, List.setIfInBounds_toArray, List.set_cons_zero, List.set_cons_succ, i64_w, i32_w]
        rfl
      refine pure_ (i := 2) (N := some 18) (v := ?_) (a' := ?_) #[Y, Y, Y, Yn, Yn, Yn, Yn, Yn, Yn, Yn, Yn, Yn, Yn, Yn, Yn, Yn, Yn] rfl rfl (any_of HT_.out (by kernel_rfl)) (fun _ _ _ h => h) (Or.inl ⟨by rfl, ?_⟩) ?_ ?_
      rotate_left
      · intro w'
        go_simp
        with_reducible rfl
      rotate_left
      · simp only [Act.put, List.setIfInBounds_toArray, List.set_cons_zero, List.set_cons_succ, i64_w, i32_w]
        rfl
      refine pure_ (i := 3) (N := some 19) (v := ?_) (a' := ?_) #[Y, Y, Y, Y, Yn, Yn, Yn, Yn, Yn, Yn, Yn, Yn, Yn, Yn, Yn, Yn, Yn] rfl rfl (any_of HT_.out (by kernel_rfl)) (fun _ _ _ h => h) (Or.inl ⟨by rfl, ?_⟩) ?_ ?_
      rotate_left
      · intro w'
        go_simp
        with_reducible rfl
      rotate_left
      · simp only [Act.put, List.setIfInBounds_toArray, List.set_cons_zero, List.set_cons_succ, i64_w, i32_w]
        rfl
      refine pure_ (i := 5) (N := some 21) (v := ?_) (a' := ?_) #[Y, Y, Y, Y, Yn, Y, Yn, Yn, Yn, Yn, Yn, Yn, Yn, Yn, Yn, Yn, Yn] rfl rfl (any_of HT_.out (by kernel_rfl)) (fun _ _ _ h => h) (Or.inl ⟨by rfl, ?_⟩) ?_ ?_
      rotate_left
      · intro w'
        go_simp
        with_reducible rfl
      rotate_left
      · simp only [Act.put, List.setIfInBounds_toArray, List.set_cons_zero, List.set_cons_succ, i64_w, i32_w]
        rfl
      refine pure_ (i := 6) (N := some 22) (v := ?_) (a' := ?_) #[Y, Y, Y, Y, Yn, Y, Y, Yn, Yn, Yn, Yn, Yn, Yn, Yn, Yn, Yn, Yn] rfl rfl (any_of HT_.out (by kernel_rfl)) (fun _ _ _ h => h) (Or.inl ⟨by rfl, ?_⟩) ?_ ?_
      rotate_left
      · intro w'
        go_simp
        with_reducible rfl
      rotate_left
      · simp only [Act.put, List.setIfInBounds_toArray, List.set_cons_zero, List.set_cons_succ, i64_w, i32_w]
        rfl
      refine pure_ (i := 7) (N := some 23) (v := ?_) (a' := ?_) #[Y, Y, Y, Y, Yn, Y, Y, Y, Yn, Yn, Yn, Yn, Yn, Yn, Yn, Yn, Yn] rfl rfl (any_of HT_.out (by kernel_rfl)) (fun _ _ _ h => h) (Or.inl ⟨by rfl, ?_⟩) ?_ ?_
      rotate_left
      · intro w'
        go_simp
        with_reducible rfl
      rotate_left
      · simp only [Act.put, List.setIfInBounds_toArray, List.set_cons_zero, List.set_cons_succ, i64_w, i32_w]
        rfl
      refine take_ (i := 4) (N := some 20) (v := ?_) (a' := ?_) #[Y, Y, Y, Y, Y, Y, Y, Y, Yn, Yn, Yn, Yn, Yn, Yn, Yn, Yn, Yn] rfl rfl (take_ofW HT_.out HW_.out (by kernel_rfl)) (fun _ _ _ h => h) (Or.inl ⟨by rfl, ?_⟩) hHeld ?_ ?_
      rotate_left
      · rintro w' ⟨s0, s1, s2⟩
        go_simp
        with_reducible rfl
      rotate_left
      · simp only [Act.put, List.setIfInBounds_toArray, List.set_cons_zero, List.set_cons_succ, i64_w, i32_w]
        rfl
      refine take_ (i := 8) (N := some 24) (v := ?_) (a' := ?_) #[Y, Y, Y, Y, Y, Y, Y, Y, Y, Yn, Yn, Yn, Yn, Yn, Yn, Yn, Yn] rfl rfl (take_ofW HT_.out HW_.out (by kernel_rfl)) (fun _ _ _ h => h) (Or.inl ⟨by rfl, ?_⟩) hHeld ?_ ?_
      rotate_left
      · rintro w' ⟨s0, s1, s2⟩
        go_simp
        with_reducible rfl
      rotate_left
      · simp only [Act.put, List.setIfInBounds_toArray, List.set_cons_zero, List.set_cons_succ, i64_w, i32_w]
        rfl
      refine one_ (i := 9) (N := some 25) #[Y, Y, Y, Y, Y, Y, Y, Y, Y, Y, Yn, Yn, Yn, Yn, Yn, Yn, Yn] rfl rfl (one_of HT_.out (by kernel_rfl)) (by decide) (fun K hK => ?_)
      refine goesT_ Tryd.func81 (by kernel_rfl) rfl #[.string s0_0, .int .i64 s0_1] (by rfl) rfl rfl rfl (by (try simp only [List.map_toArray, List.map_cons, List.map_nil]); first | done | rfl | (simp only [List.length_drop, List.length_take]; rfl)) ?_
      with_reducible refine (codec_text.calls k s0_0 s0_1 t154 t155 true _ ?side99  A3.out).mono ?_
      (case side99 => first | exact HG.out | exact Glob.below HG.out (by repeat (first | (with_reducible first | exact HB.out | apply below_alloc | apply pw_below_drewN | apply below_drew1 | refine below_set ?_ (IsS119.ge HI0.out)) | exact HB.out)))
      rintro e w7 ⟨rfl, hb⟩
      refine ⟨_, rfl, ?_⟩
      have n0_ := Aside0.mk (IsS119.below (by repeat (first | (with_reducible first | exact HI0.out | apply IsS119.alloc | apply IsS119.drewN | apply IsS119.drew | apply IsS119.set_0 | apply IsS119.set_1 | apply IsS119.set_2) | exact HI0.out)) hb)
      have n1_ := Aside0.mk (KeepBut.trans (by repeat (first | (with_reducible first | exact HK.out | apply KeepBut.set_ | apply keep_drewN | apply keep_drew | apply keep_alloc) | exact HK.out)) (KeepBut.of_below hb g none) (.inl rfl))
      have n2_ := Aside0.mk (below_step (by repeat (first | (with_reducible first | exact HB.out | apply below_alloc | apply pw_below_drewN | apply below_drew1 | refine below_set ?_ (IsS119.ge HI0.out)) | exact HB.out)) hb)
      clear HI0
      clear HK
      clear HB
      have HI0 := n0_
      have HK := n1_
      have HB := n2_
      clear n0_ n1_ n2_
      (try clear hb)
      (try clear hb2)
      (try clear hk)
      (try clear hi)
      refine hK.out _ _ ⟨(blk_cell (Aside0.mk HI0.out.1).out 0).trans rfl, (blk_cell (Aside0.mk HI0.out.1).out 1).trans rfl, (blk_cell (Aside0.mk HI0.out.1).out 2).trans rfl⟩ (fun hHeld => ?_)
      clear hK K
      refine norm_ (a' := ?_) ?_ ?_
      rotate_left
      · show Act.put _ (some 25) _ = _
        simp only [Act.put, List.setIfInBounds_toArray, List.set_cons_zero, List.set_cons_succ, i64_w, i32_w]
        rfl
      refine pure_ (i := 10) (N := some 15) (v := ?_) (a' := ?_) #[Y, Y, Y, Y, Y, Y, Y, Y, Y, Y, Y, Yn, Yn, Yn, Yn, Yn, Yn] rfl rfl (any_of HT_.out (by kernel_rfl)) (fun _ _ _ h => h) (Or.inl ⟨by rfl, ?_⟩) ?_ ?_
      rotate_left
      · intro w'
        go_simp
        with_reducible rfl
      rotate_left
      · simp only [Act.put, List.setIfInBounds_toArray, List.set_cons_zero, List.set_cons_succ, i64_w, i32_w]
        rfl
      refine pure_ (i := 11) (N := some 26) (v := ?_) (a' := ?_) #[Y, Y, Y, Y, Y, Y, Y, Y, Y, Y, Y, Y, Yn, Yn, Yn, Yn, Yn] rfl rfl (any_of HT_.out (by kernel_rfl)) (fun _ _ _ h => h) (Or.inl ⟨by rfl, ?_⟩) ?_ ?_
      rotate_left
      · intro w'
        go_simp
        with_reducible rfl
      rotate_left
      · simp only [Act.put, List.setIfInBounds_toArray, List.set_cons_zero, List.set_cons_succ, i64_w, i32_w]
        rfl
      refine pure_ (i := 12) (N := some 27) (v := ?_) (a' := ?_) #[Y, Y, Y, Y, Y, Y, Y, Y, Y, Y, Y, Y, Y, Yn, Yn, Yn, Yn] rfl rfl (any_of HT_.out (by kernel_rfl)) (fun _ _ _ h => h) (Or.inl ⟨by rfl, ?_⟩) ?_ ?_
      rotate_left
      · intro w'
        go_simp
        with_reducible rfl
      rotate_left
      · simp only [Act.put, List.setIfInBounds_toArray, List.set_cons_zero, List.set_cons_succ, i64_w, i32_w]
        rfl
      refine pure_ (i := 13) (N := some 28) (v := ?_) (a' := ?_) #[Y, Y, Y, Y, Y, Y, Y, Y, Y, Y, Y, Y, Y, Y, Yn, Yn, Yn] rfl rfl (any_of HT_.out (by kernel_rfl)) (fun _ _ _ h => h) (Or.inl ⟨by rfl, ?_⟩) ?_ ?_
      rotate_left
      · intro w'
        go_simp
        with_reducible rfl
      rotate_left
      · simp only [Act.put, List.setIfInBounds_toArray, List.set_cons_zero, List.set_cons_succ, i64_w, i32_w]
        rfl
      refine pure_ (i := 14) (N := some 6) (v := ?_) (a' := ?_) #[Y, Y, Y, Y, Y, Y, Y, Y, Y, Y, Y, Y, Y, Y, Y, Yn, Yn] rfl rfl (any_of HT_.out (by kernel_rfl)) (fun _ _ _ h => h) (Or.inl ⟨by rfl, ?_⟩) ?_ ?_
      rotate_left
      · intro w'
        go_simp
        with_reducible rfl
      rotate_left
      · simp only [Act.put, List.setIfInBounds_toArray, List.set_cons_zero, List.set_cons_succ, i64_w, i32_w]
        rfl
      refine pure_ (i := 15) (N := some 7) (v := ?_) (a' := ?_) #[Y, Y, Y, Y, Y, Y, Y, Y, Y, Y, Y, Y, Y, Y, Y, Y, Yn] rfl rfl (any_of HT_.out (by kernel_rfl)) (fun _ _ _ h => h) (Or.inl ⟨by rfl, ?_⟩) ?_ ?_
      rotate_left
      · intro w'
        go_simp
        with_reducible rfl
      rotate_left
      · simp only [Act.put, List.setIfInBounds_toArray, List.set_cons_zero, List.set_cons_succ, i64_w, i32_w]
        rfl
      refine pure_ (i := 16) (N := some 8) (v := ?_) (a' := ?_) #[Y, Y, Y, Y, Y, Y, Y, Y, Y, Y, Y, Y, Y, Y, Y, Y, Y] rfl rfl (any_of HT_.out (by kernel_rfl)) (fun _ _ _ h => h) (Or.inl ⟨by rfl, ?_⟩) ?_ ?_
      rotate_left
      · intro w'
        go_simp
        with_reducible rfl
      rotate_left
      · simp only [Act.put, List.setIfInBounds_toArray, List.set_cons_zero, List.set_cons_succ, i64_w, i32_w]
        rfl
      refine done_ (done_of HT_.out (by kernel_rfl)) ?_
      obtain ⟨HGz8, hgz8⟩ := HI0.out
      have hcz8_0 := cellS119_0 HGz8
      have hcz8_1 := cellS119_1 HGz8
      have hcz8_2 := cellS119_2 HGz8
      have hfz8_0 := blk_frozen HGz8 0
      have hfz8_1 := blk_frozen HGz8 1
      have hfz8_2 := blk_frozen HGz8 2
      clear HGz8 hgz8
      try go_wp2_with (first | (go_at_call 80; go_in) | ((try simp only [Exit.inBlock, Exit.then]); refine bodyPost_end (results_none rfl _ _ _) rfl ?_; simp only []; go_at_K))
      go_ret
      exact ⟨by first | rfl | (simp [errW_none, errW_some] <;> rfl) | (simp [*, errW_none, errW_some] <;> rfl), by repeat (first | (with_reducible first | exact HI0.out | apply IsS119.alloc | apply IsS119.drewN | apply IsS119.drew | apply IsS119.set_0 | apply IsS119.set_1 | apply IsS119.set_2) | exact HI0.out), by repeat (first | (with_reducible first | exact HB.out | apply below_alloc | apply pw_below_drewN | apply below_drew1 | refine below_set ?_ (IsS119.ge HI0.out)) | exact HB.out), by repeat (first | (with_reducible first | exact HK.out | apply KeepBut.set_ | apply keep_drewN | apply keep_drew | apply keep_alloc) | exact HK.out)⟩
    · replace c4 := Bool.eq_false_iff.mpr c4
      subst c4
      have H1 : (some ((⟨#[]⟩ : ByteArray), s0_0, s0_1, 2)) = some (r1, r2, r3, r4) := by rw [if_neg (show ¬ (false = true) by decide)] at H; exact H
      clear H
      have H := H1
      clear H1
      simp only [Option.some.injEq, Prod.mk.injEq] at H
      obtain ⟨rfl, rfl, rfl, rfl⟩ := H
      obtain ⟨HGz9, hgz9⟩ := HI0.out
      have hcz9_0 := cellS119_0 HGz9
      have hcz9_1 := cellS119_1 HGz9
      have hcz9_2 := cellS119_2 HGz9
      have hfz9_0 := blk_frozen HGz9 0
      have hfz9_1 := blk_frozen HGz9 1
      have hfz9_2 := blk_frozen HGz9 2
      clear HGz9 hgz9
      go_enter Tryd.func50, Tryd.ntmps50
      try go_wp2_with (first | (go_at_call 80; go_in) | ((try simp only [Exit.inBlock, Exit.then]); refine bodyPost_end (results_none rfl _ _ _) rfl ?_; simp only []; go_at_K))
      have n0_ := Aside0.mk (IsS119.drew HI0.out)
      have n1_ := Aside0.mk (keep_drew HK.out)
      have n2_ := Aside0.mk (below_drew1 HB.out)
      clear HI0
      clear HK
      clear HB
      have HI0 := n0_
      have HK := n1_
      have HB := n2_
      clear n0_ n1_ n2_
      refine start_ (n := 17) (S := fun w' => w'.cell? ⟨g, 0, none⟩ = some (.string s0_0) ∧ w'.cell? ⟨g, 1, none⟩ = some (.int .i64 s0_1) ∧ w'.cell? ⟨g, 2, none⟩ = some (.int .i64 s0_2)) (ds := []) #[Yn, Yn, Yn, Yn, Yn, Yn, Yn, Yn, Yn, Yn, Yn, Yn, Yn, Yn, Yn, Yn, Yn] (by kernel_rfl) rfl rfl ⟨(blk_cell (Aside0.mk HI0.out.1).out 0).trans rfl, (blk_cell (Aside0.mk HI0.out.1).out 1).trans rfl, (blk_cell (Aside0.mk HI0.out.1).out 2).trans rfl⟩ (fun hHeld => ?_); refine with_tabW codec_Reader_Text.tab80004 codec_Reader_Text.bits80004 (fun HT_ HW_ => ?_)
      generalize w.drew = w10 at HI0 HK HB hHeld ⊢
      refine pure_ (i := 0) (N := some 16) (v := ?_) (a' := ?_) #[Y, Yn, Yn, Yn, Yn, Yn, Yn, Yn, Yn, Yn, Yn, Yn, Yn, Yn, Yn, Yn, Yn] rfl rfl (any_of HT_.out (by kernel_rfl)) (fun _ _ _ h => h) (Or.inl ⟨by rfl, ?_⟩) ?_ ?_
      rotate_left
      · intro w'
        go_simp
        with_reducible rfl
      rotate_left
      · simp only [Act.put, List.setIfInBounds_toArray, List.set_cons_zero, List.set_cons_succ, i64_w, i32_w]
        rfl
      refine pure_ (i := 1) (N := some 17) (v := ?_) (a' := ?_) #[Y, Y, Yn, Yn, Yn, Yn, Yn, Yn, Yn, Yn, Yn, Yn, Yn, Yn, Yn, Yn, Yn] rfl rfl (any_of HT_.out (by kernel_rfl)) (fun _ _ _ h => h) (Or.inl ⟨by rfl, ?_⟩) ?_ ?_
      rotate_left
      · intro w'
        go_simp
        with_reducible rfl
      rotate_left
      · simp only [Act.put, List.setIfInBounds_toArray, List.set_cons_zero, List.set_cons_succ, i64_w, i32_w]
        rfl
      refine pure_ (i := 2) (N := some 18) (v := ?_) (a' := ?_) #[Y, Y, Y, Yn, Yn, Yn, Yn, Yn, Yn, Yn, Yn, Yn, Yn, Yn, Yn, Yn, Yn] rfl rfl (any_of HT_.out (by kernel_rfl)) (fun _ _ _ h => h) (Or.inl ⟨by rfl, ?_⟩) ?_ ?_
      rotate_left
      · intro w'
        go_simp
        with_reducible rfl
      rotate_left
      · simp only [Act.put, List.setIfInBounds_toArray, List.set_cons_zero, List.set_cons_succ, i64_w, i32_w]
        rfl
      refine pure_ (i := 3) (N := some 19) (v := ?_) (a' := ?_) #[Y, Y, Y, Y, Yn, Yn, Yn, Yn, Yn, Yn, Yn, Yn, Yn, Yn, Yn, Yn, Yn] rfl rfl (any_of HT_.out (by kernel_rfl)) (fun _ _ _ h => h) (Or.inl ⟨by rfl, ?_⟩) ?_ ?_
      rotate_left
      · intro w'
        go_simp
        with_reducible rfl
      rotate_left
      · simp only [Act.put, List.setIfInBounds_toArray, List.set_cons_zero, List.set_cons_succ, i64_w, i32_w]
        rfl
      refine pure_ (i := 5) (N := some 21) (v := ?_) (a' := ?_) #[Y, Y, Y, Y, Yn, Y, Yn, Yn, Yn, Yn, Yn, Yn, Yn, Yn, Yn, Yn, Yn] rfl rfl (any_of HT_.out (by kernel_rfl)) (fun _ _ _ h => h) (Or.inl ⟨by rfl, ?_⟩) ?_ ?_
      rotate_left
      · intro w'
        go_simp
        with_reducible rfl
      rotate_left
      · simp only [Act.put, List.setIfInBounds_toArray, List.set_cons_zero, List.set_cons_succ, i64_w, i32_w]
        rfl
      refine pure_ (i := 6) (N := some 22) (v := ?_) (a' := ?_) #[Y, Y, Y, Y, Yn, Y, Y, Yn, Yn, Yn, Yn, Yn, Yn, Yn, Yn, Yn, Yn] rfl rfl (any_of HT_.out (by kernel_rfl)) (fun _ _ _ h => h) (Or.inl ⟨by rfl, ?_⟩) ?_ ?_
      rotate_left
      · intro w'
        go_simp
        with_reducible rfl
      rotate_left
      · simp only [Act.put, List.setIfInBounds_toArray, List.set_cons_zero, List.set_cons_succ, i64_w, i32_w]
        rfl
      refine pure_ (i := 7) (N := some 23) (v := ?_) (a' := ?_) #[Y, Y, Y, Y, Yn, Y, Y, Y, Yn, Yn, Yn, Yn, Yn, Yn, Yn, Yn, Yn] rfl rfl (any_of HT_.out (by kernel_rfl)) (fun _ _ _ h => h) (Or.inl ⟨by rfl, ?_⟩) ?_ ?_
      rotate_left
      · intro w'
        go_simp
        with_reducible rfl
      rotate_left
      · simp only [Act.put, List.setIfInBounds_toArray, List.set_cons_zero, List.set_cons_succ, i64_w, i32_w]
        rfl
      refine take_ (i := 4) (N := some 20) (v := ?_) (a' := ?_) #[Y, Y, Y, Y, Y, Y, Y, Y, Yn, Yn, Yn, Yn, Yn, Yn, Yn, Yn, Yn] rfl rfl (take_ofW HT_.out HW_.out (by kernel_rfl)) (fun _ _ _ h => h) (Or.inl ⟨by rfl, ?_⟩) hHeld ?_ ?_
      rotate_left
      · rintro w' ⟨s0, s1, s2⟩
        go_simp
        with_reducible rfl
      rotate_left
      · simp only [Act.put, List.setIfInBounds_toArray, List.set_cons_zero, List.set_cons_succ, i64_w, i32_w]
        rfl
      refine take_ (i := 8) (N := some 24) (v := ?_) (a' := ?_) #[Y, Y, Y, Y, Y, Y, Y, Y, Y, Yn, Yn, Yn, Yn, Yn, Yn, Yn, Yn] rfl rfl (take_ofW HT_.out HW_.out (by kernel_rfl)) (fun _ _ _ h => h) (Or.inl ⟨by rfl, ?_⟩) hHeld ?_ ?_
      rotate_left
      · rintro w' ⟨s0, s1, s2⟩
        go_simp
        with_reducible rfl
      rotate_left
      · simp only [Act.put, List.setIfInBounds_toArray, List.set_cons_zero, List.set_cons_succ, i64_w, i32_w]
        rfl
      refine one_ (i := 9) (N := some 25) #[Y, Y, Y, Y, Y, Y, Y, Y, Y, Y, Yn, Yn, Yn, Yn, Yn, Yn, Yn] rfl rfl (one_of HT_.out (by kernel_rfl)) (by decide) (fun K hK => ?_)
      refine goesT_ Tryd.func81 (by kernel_rfl) rfl #[.string s0_0, .int .i64 s0_1] (by rfl) rfl rfl rfl (by (try simp only [List.map_toArray, List.map_cons, List.map_nil]); first | done | rfl | (simp only [List.length_drop, List.length_take]; rfl)) ?_
      with_reducible refine (codec_text.calls k s0_0 s0_1 t154 t155 false _ ?side99  A3.out).mono ?_
      (case side99 => first | exact HG.out | exact Glob.below HG.out (by repeat (first | (with_reducible first | exact HB.out | apply below_alloc | apply pw_below_drewN | apply below_drew1 | refine below_set ?_ (IsS119.ge HI0.out)) | exact HB.out)))
      rintro e w11 ⟨rfl, hb⟩
      refine ⟨_, rfl, ?_⟩
      have n0_ := Aside0.mk (IsS119.below (by repeat (first | (with_reducible first | exact HI0.out | apply IsS119.alloc | apply IsS119.drewN | apply IsS119.drew | apply IsS119.set_0 | apply IsS119.set_1 | apply IsS119.set_2) | exact HI0.out)) hb)
      have n1_ := Aside0.mk (KeepBut.trans (by repeat (first | (with_reducible first | exact HK.out | apply KeepBut.set_ | apply keep_drewN | apply keep_drew | apply keep_alloc) | exact HK.out)) (KeepBut.of_below hb g none) (.inl rfl))
      have n2_ := Aside0.mk (below_step (by repeat (first | (with_reducible first | exact HB.out | apply below_alloc | apply pw_below_drewN | apply below_drew1 | refine below_set ?_ (IsS119.ge HI0.out)) | exact HB.out)) hb)
      clear HI0
      clear HK
      clear HB
      have HI0 := n0_
      have HK := n1_
      have HB := n2_
      clear n0_ n1_ n2_
      (try clear hb)
      (try clear hb2)
      (try clear hk)
      (try clear hi)
      refine hK.out _ _ ⟨(blk_cell (Aside0.mk HI0.out.1).out 0).trans rfl, (blk_cell (Aside0.mk HI0.out.1).out 1).trans rfl, (blk_cell (Aside0.mk HI0.out.1).out 2).trans rfl⟩ (fun hHeld => ?_)
      clear hK K
      refine norm_ (a' := ?_) ?_ ?_
      rotate_left
      · show Act.put _ (some 25) _ = _
        simp only [Act.put, List.setIfInBounds_toArray, List.set_cons_zero, List.set_cons_succ, i64_w, i32_w]
        rfl
      refine pure_ (i := 10) (N := some 15) (v := ?_) (a' := ?_) #[Y, Y, Y, Y, Y, Y, Y, Y, Y, Y, Y, Yn, Yn, Yn, Yn, Yn, Yn] rfl rfl (any_of HT_.out (by kernel_rfl)) (fun _ _ _ h => h) (Or.inl ⟨by rfl, ?_⟩) ?_ ?_
      rotate_left
      · intro w'
        go_simp
        with_reducible rfl
      rotate_left
      · simp only [Act.put, List.setIfInBounds_toArray, List.set_cons_zero, List.set_cons_succ, i64_w, i32_w]
        rfl
      refine pure_ (i := 11) (N := some 26) (v := ?_) (a' := ?_) #[Y, Y, Y, Y, Y, Y, Y, Y, Y, Y, Y, Y, Yn, Yn, Yn, Yn, Yn] rfl rfl (any_of HT_.out (by kernel_rfl)) (fun _ _ _ h => h) (Or.inl ⟨by rfl, ?_⟩) ?_ ?_
      rotate_left
      · intro w'
        go_simp
        with_reducible rfl
      rotate_left
      · simp only [Act.put, List.setIfInBounds_toArray, List.set_cons_zero, List.set_cons_succ, i64_w, i32_w]
        rfl
      refine pure_ (i := 12) (N := some 27) (v := ?_) (a' := ?_) #[Y, Y, Y, Y, Y, Y, Y, Y, Y, Y, Y, Y, Y, Yn, Yn, Yn, Yn] rfl rfl (any_of HT_.out (by kernel_rfl)) (fun _ _ _ h => h) (Or.inl ⟨by rfl, ?_⟩) ?_ ?_
      rotate_left
      · intro w'
        go_simp
        with_reducible rfl
      rotate_left
      · simp only [Act.put, List.setIfInBounds_toArray, List.set_cons_zero, List.set_cons_succ, i64_w, i32_w]
        rfl
      refine pure_ (i := 13) (N := some 28) (v := ?_) (a' := ?_) #[Y, Y, Y, Y, Y, Y, Y, Y, Y, Y, Y, Y, Y, Y, Yn, Yn, Yn] rfl rfl (any_of HT_.out (by kernel_rfl)) (fun _ _ _ h => h) (Or.inl ⟨by rfl, ?_⟩) ?_ ?_
      rotate_left
      · intro w'
        go_simp
        with_reducible rfl
      rotate_left
      · simp only [Act.put, List.setIfInBounds_toArray, List.set_cons_zero, List.set_cons_succ, i64_w, i32_w]
        rfl
      refine pure_ (i := 14) (N := some 6) (v := ?_) (a' := ?_) #[Y, Y, Y, Y, Y, Y, Y, Y, Y, Y, Y, Y, Y, Y, Y, Yn, Yn] rfl rfl (any_of HT_.out (by kernel_rfl)) (fun _ _ _ h => h) (Or.inl ⟨by rfl, ?_⟩) ?_ ?_
      rotate_left
      · intro w'
        go_simp
        with_reducible rfl
      rotate_left
      · simp only [Act.put, List.setIfInBounds_toArray, List.set_cons_zero, List.set_cons_succ, i64_w, i32_w]
        rfl
      refine pure_ (i := 15) (N := some 7) (v := ?_) (a' := ?_) #[Y, Y, Y, Y, Y, Y, Y, Y, Y, Y, Y, Y, Y, Y, Y, Y, Yn] rfl rfl (any_of HT_.out (by kernel_rfl)) (fun _ _ _ h => h) (Or.inl ⟨by rfl, ?_⟩) ?_ ?_
      rotate_left
      · intro w'
        go_simp
        with_reducible rfl
      rotate_left
      · simp only [Act.put, List.setIfInBounds_toArray, List.set_cons_zero, List.set_cons_succ, i64_w, i32_w]
        rfl
      refine pure_ (i := 16) (N := some 8) (v := ?_) (a' := ?_) #[Y, Y, Y, Y, Y, Y, Y, Y, Y, Y, Y, Y, Y, Y, Y, Y, Y] rfl rfl (any_of HT_.out (by kernel_rfl)) (fun _ _ _ h => h) (Or.inl ⟨by rfl, ?_⟩) ?_ ?_
      rotate_left
      · intro w'
        go_simp
        with_reducible rfl
      rotate_left
      · simp only [Act.put, List.setIfInBounds_toArray, List.set_cons_zero, List.set_cons_succ, i64_w, i32_w]
        rfl
      refine done_ (done_of HT_.out (by kernel_rfl)) ?_
      obtain ⟨HGz12, hgz12⟩ := HI0.out
      have hcz12_0 := cellS119_0 HGz12
      have hcz12_1 := cellS119_1 HGz12
      have hcz12_2 := cellS119_2 HGz12
      have hfz12_0 := blk_frozen HGz12 0
      have hfz12_1 := blk_frozen HGz12 1
      have hfz12_2 := blk_frozen HGz12 2
      clear HGz12 hgz12
      try go_wp2_with (first | (go_at_call 80; go_in) | ((try simp only [Exit.inBlock, Exit.then]); refine bodyPost_end (results_none rfl _ _ _) rfl ?_; simp only []; go_at_K))
      go_ret
      exact ⟨by first | rfl | (simp [errW_none, errW_some] <;> rfl) | (simp [*, errW_none, errW_some] <;> rfl), by repeat (first | (with_reducible first | exact HI0.out | apply IsS119.alloc | apply IsS119.drewN | apply IsS119.drew | apply IsS119.set_0 | apply IsS119.set_1 | apply IsS119.set_2) | exact HI0.out), by repeat (first | (with_reducible first | exact HB.out | apply below_alloc | apply pw_below_drewN | apply below_drew1 | refine below_set ?_ (IsS119.ge HI0.out)) | exact HB.out), by repeat (first | (with_reducible first | exact HK.out | apply KeepBut.set_ | apply keep_drewN | apply keep_drew | apply keep_alloc) | exact HK.out)⟩
  · rw [if_neg c2] at H
    have c2b0 : (s0_2 == 0) = false := beq_eq_false_iff_ne.mpr c2
    have c2b1 : (s0_2 != 0) = true := bne_iff_ne.mpr c2
    simp only [Option.some.injEq, Prod.mk.injEq] at H
    obtain ⟨rfl, rfl, rfl, rfl⟩ := H
    obtain ⟨HGz13, hgz13⟩ := HI0.out
    have hcz13_0 := cellS119_0 HGz13
    have hcz13_1 := cellS119_1 HGz13
    have hcz13_2 := cellS119_2 HGz13
    have hfz13_0 := blk_frozen HGz13 0
    have hfz13_1 := blk_frozen HGz13 1
    have hfz13_2 := blk_frozen HGz13 2
    clear HGz13 hgz13
    go_enter Tryd.func50, Tryd.ntmps50
    go_wp2_with (first | (go_at_call 80; go_in) | ((try simp only [Exit.inBlock, Exit.then]); refine bodyPost_end (results_none rfl _ _ _) rfl ?_; simp only []; go_at_K))
    go_ret
    exact ⟨by first | rfl | (simp [errW_none, errW_some] <;> rfl) | (simp [*, errW_none, errW_some] <;> rfl), by repeat (first | (with_reducible first | exact HI0.out | apply IsS119.alloc | apply IsS119.drewN | apply IsS119.drew | apply IsS119.set_0 | apply IsS119.set_1 | apply IsS119.set_2) | exact HI0.out), by repeat (first | (with_reducible first | exact HB.out | apply below_alloc | apply pw_below_drewN | apply below_drew1 | refine below_set ?_ (IsS119.ge HI0.out)) | exact HB.out), by repeat (first | (with_reducible first | exact HK.out | apply KeepBut.set_ | apply keep_drewN | apply keep_drew | apply keep_alloc) | exact HK.out)⟩
end Go.Proofs.YtbgabhknmpbgiaaDoor.S
end
section
namespace Go.Proofs.YtbgabhknmpbgiaaDoor.S
open Go.RowKit Go.Proofs.YtbgabhknmpbgiaaDoorW.PrintWords Go.Proofs.YtbgabhknmpbgiaaDoorW.PrintLast Go.Proofs.YtbgabhknmpbgiaaDoorW.PrintMore
attribute [local go_sem] max2_int min2_int max_two min_two max_three min_three max_four min_four
set_option linter.unusedVariables false
set_option linter.unusedSimpArgs false
def codec_Reader_End.f (s0_0 : ByteArray) (s0_1 : Int) (s0_2 : Int) : Option (Int × ByteArray × Int × Int) := if s0_2 = 0 then (if s0_1 = (s0_0.size : Int) then (some (s0_2, s0_0, s0_1, s0_2)) else (some (2, s0_0, s0_1, s0_2))) else (some (s0_2, s0_0, s0_1, s0_2))
set_option maxHeartbeats 8000000 in
set_option maxRecDepth 100000 in
theorem codec_Reader_End.calls (g : Nat) (s0_0 : ByteArray) (s0_1 : Int) (s0_2 : Int) (r1 : Int) (r2 : ByteArray) (r3 : Int) (r4 : Int) (w0 w : World) (hG : Glob w0) (hI : IsS119 w0 w g s0_0 s0_1 s0_2) (hB : Below w0.heap.size w0 w) (h : codec_Reader_End.f s0_0 s0_1 s0_2 = some (r1, r2, r3, r4)) :
    Calls Tryd.prog 51 #[.pointer (some ⟨g, 0, none⟩)] w fun e w' => e = .returned (.int .i64 r1) ∧ IsS119 w0 w' g r2 r3 r4 ∧ Below w0.heap.size w0 w' ∧ KeepBut w w' g none := by
  have HG := Aside0.mk hG
  clear hG
  have HI0 := Aside0.mk hI
  have HK := Aside0.mk (KeepBut.refl w g none)
  have HL := Aside0.mk hB.size
  clear hI
  have HW0 := Aside0.mk hB.size
  have HB := Aside0.mk hB
  clear hB
  have H : (if s0_2 = 0 then (if s0_1 = (s0_0.size : Int) then (some (s0_2, s0_0, s0_1, s0_2)) else (some (2, s0_0, s0_1, s0_2))) else (some (s0_2, s0_0, s0_1, s0_2))) = some (r1, r2, r3, r4) := h
  clear h
  by_cases c2 : s0_2 = 0
  · rw [if_pos c2] at H
    have c2b0 : (s0_2 == 0) = true := beq_iff_eq.mpr c2
    have c2b1 : (s0_2 != 0) = false := bne_eq_false_iff_eq.mpr c2
    clear c2
    by_cases c3 : s0_1 = (s0_0.size : Int)
    · rw [if_pos c3] at H
      have c3b0 : (s0_1 == (s0_0.size : Int)) = true := beq_iff_eq.mpr c3
      have c3b1 : (s0_1 != (s0_0.size : Int)) = false := bne_eq_false_iff_eq.mpr c3
      clear c3
      simp only [Option.some.injEq, Prod.mk.injEq] at H
      obtain ⟨rfl, rfl, rfl, rfl⟩ := H
      obtain ⟨HGz4, hgz4⟩ := HI0.out
      have hcz4_0 := cellS119_0 HGz4
      have hcz4_1 := cellS119_1 HGz4
      have hcz4_2 := cellS119_2 HGz4
      have hfz4_0 := blk_frozen HGz4 0
      have hfz4_1 := blk_frozen HGz4 1
      have hfz4_2 := blk_frozen HGz4 2
      clear HGz4 hgz4
      go_enter Tryd.func51, Tryd.ntmps51
      go_wp2
      repeat (go_quiet (fail); try go_wp2)
      go_ret
      exact ⟨by first | rfl | (simp [errW_none, errW_some] <;> rfl) | (simp [*, errW_none, errW_some] <;> rfl), by repeat (first | (with_reducible first | exact HI0.out | apply IsS119.alloc | apply IsS119.drewN | apply IsS119.drew | apply IsS119.set_0 | apply IsS119.set_1 | apply IsS119.set_2) | exact HI0.out), by repeat (first | (with_reducible first | exact HB.out | apply below_alloc | apply pw_below_drewN | apply below_drew1 | refine below_set ?_ (IsS119.ge HI0.out)) | exact HB.out), by repeat (first | (with_reducible first | exact HK.out | apply KeepBut.set_ | apply keep_drewN | apply keep_drew | apply keep_alloc) | exact HK.out)⟩
    · rw [if_neg c3] at H
      have c3b0 : (s0_1 == (s0_0.size : Int)) = false := beq_eq_false_iff_ne.mpr c3
      have c3b1 : (s0_1 != (s0_0.size : Int)) = true := bne_iff_ne.mpr c3
      simp only [Option.some.injEq, Prod.mk.injEq] at H
      obtain ⟨rfl, rfl, rfl, rfl⟩ := H
      obtain ⟨HGz5, hgz5⟩ := HI0.out
      have hcz5_0 := cellS119_0 HGz5
      have hcz5_1 := cellS119_1 HGz5
      have hcz5_2 := cellS119_2 HGz5
      have hfz5_0 := blk_frozen HGz5 0
      have hfz5_1 := blk_frozen HGz5 1
      have hfz5_2 := blk_frozen HGz5 2
      clear HGz5 hgz5
      go_enter Tryd.func51, Tryd.ntmps51
      go_wp2
      repeat (go_quiet (fail); try go_wp2)
      go_ret
      exact ⟨by first | rfl | (simp [errW_none, errW_some] <;> rfl) | (simp [*, errW_none, errW_some] <;> rfl), by repeat (first | (with_reducible first | exact HI0.out | apply IsS119.alloc | apply IsS119.drewN | apply IsS119.drew | apply IsS119.set_0 | apply IsS119.set_1 | apply IsS119.set_2) | exact HI0.out), by repeat (first | (with_reducible first | exact HB.out | apply below_alloc | apply pw_below_drewN | apply below_drew1 | refine below_set ?_ (IsS119.ge HI0.out)) | exact HB.out), by repeat (first | (with_reducible first | exact HK.out | apply KeepBut.set_ | apply keep_drewN | apply keep_drew | apply keep_alloc) | exact HK.out)⟩
  · rw [if_neg c2] at H
    have c2b0 : (s0_2 == 0) = false := beq_eq_false_iff_ne.mpr c2
    have c2b1 : (s0_2 != 0) = true := bne_iff_ne.mpr c2
    simp only [Option.some.injEq, Prod.mk.injEq] at H
    obtain ⟨rfl, rfl, rfl, rfl⟩ := H
    obtain ⟨HGz6, hgz6⟩ := HI0.out
    have hcz6_0 := cellS119_0 HGz6
    have hcz6_1 := cellS119_1 HGz6
    have hcz6_2 := cellS119_2 HGz6
    have hfz6_0 := blk_frozen HGz6 0
    have hfz6_1 := blk_frozen HGz6 1
    have hfz6_2 := blk_frozen HGz6 2
    clear HGz6 hgz6
    go_enter Tryd.func51, Tryd.ntmps51
    go_wp2
    repeat (go_quiet (fail); try go_wp2)
    go_ret
    exact ⟨by first | rfl | (simp [errW_none, errW_some] <;> rfl) | (simp [*, errW_none, errW_some] <;> rfl), by repeat (first | (with_reducible first | exact HI0.out | apply IsS119.alloc | apply IsS119.drewN | apply IsS119.drew | apply IsS119.set_0 | apply IsS119.set_1 | apply IsS119.set_2) | exact HI0.out), by repeat (first | (with_reducible first | exact HB.out | apply below_alloc | apply pw_below_drewN | apply below_drew1 | refine below_set ?_ (IsS119.ge HI0.out)) | exact HB.out), by repeat (first | (with_reducible first | exact HK.out | apply KeepBut.set_ | apply keep_drewN | apply keep_drew | apply keep_alloc) | exact HK.out)⟩
end Go.Proofs.YtbgabhknmpbgiaaDoor.S
end
section
namespace Go.Proofs.YtbgabhknmpbgiaaDoor.S
open Go.RowKit Go.Proofs.YtbgabhknmpbgiaaDoorW.PrintWords Go.Proofs.YtbgabhknmpbgiaaDoorW.PrintLast Go.Proofs.YtbgabhknmpbgiaaDoorW.PrintMore
set_option linter.unusedVariables false
set_option linter.unusedSimpArgs false
attribute [local go_sem] max2_int min2_int max_two min_two max_three min_three
theorem below_setRow {B g : Nat} {w W : World} (h : Below B w W) (hg : B ≤ g) (cs : Array Value) : Below B w (W.setRow g cs) :=
  ⟨h.os, h.tape, h.output, by simp; exact h.size, fun i hi => (setRow_other W g i cs (by omega)).trans (h.block i hi)⟩
def decR (n kind id number : Int) (more : Bool) (window : Int) (text : ByteArray) (en ce : Int) : S23 × Int := if en = 0 then (if n = 6 then (if mx (mx kind id) window > 1000 then (z23, 2) else if ce = 0 then (⟨kind, id, number, more, window, text⟩, 0) else (z23, ce)) else (z23, 2)) else (z23, 2)
def DecPost (w : World) (r : S23 × Int) (e : Ending) (w' : World) : Prop := e = .returned (.tuple #[.agg #[.int .i64 r.1.f0, .int .i64 r.1.f1, .int .i64 r.1.f2, .bool r.1.f3, .int .i64 r.1.f4, .string r.1.f5], .int .i64 r.2]) ∧ Below w.heap.size w w'
set_option maxHeartbeats 16000000 in
set_option maxRecDepth 100000 in
theorem decode_calls (k : Nat) (S : ByteArray) (n kind id number : Int) (more : Bool) (window : Int) (text : ByteArray) (en : Int) (s1 s2 s3 s4 s5 s6 s7 s8 : ByteArray) (p1 e1 p2 e2 p3 e3 p4 e4 p5 e5 p6 e6 p7 e7 p8 e8 : Int) (h1 : codec_Reader_List.f k S 0 0 = some (n, s1, p1, e1)) (h2 : codec_Reader_Unsigned.f k s1 p1 e1 = some (kind, s2, p2, e2)) (h3 : codec_Reader_Unsigned.f k s2 p2 e2 = some (id, s3, p3, e3)) (h4 : codec_Reader_Signed.f k s3 p3 e3 = some (number, s4, p4, e4)) (h5 : codec_Reader_Bool.f k s4 p4 e4 = some (more, s5, p5, e5)) (h6 : codec_Reader_Unsigned.f k s5 p5 e5 = some (window, s6, p6, e6)) (h7 : codec_Reader_Text.f k s6 p6 e6 = some (text, s7, p7, e7)) (h8 : codec_Reader_End.f s7 p7 e7 = some (en, s8, p8, e8)) (ce : Int) (w : World) (hG : Glob w) (hc : segment_Check.f k kind id number more window text = some ce) (hu : 0 ≤ kind ∧ 0 ≤ id ∧ 0 ≤ window) :
    Calls Tryd.prog 14 #[.string S] w fun e w' => DecPost w (decR n kind id number more window text en ce) e w' := by
  have HG := Aside0.mk hG
  have HR1 := Aside0.mk h1
  have HR2 := Aside0.mk h2
  have HR3 := Aside0.mk h3
  have HR4 := Aside0.mk h4
  have HR5 := Aside0.mk h5
  have HR6 := Aside0.mk h6
  have HR7 := Aside0.mk h7
  have HR8 := Aside0.mk h8
  have HCK := Aside0.mk hc
  have HU := Aside0.mk hu
  clear hG hc hu h1 h2 h3 h4 h5 h6 h7 h8
  by_cases q0 : en = 0
  · have q0b : (en != 0) = false := by rw [q0]; rfl
    by_cases q1 : n = 6
    · have q1b : (n != 6) = false := by rw [q1]; rfl
      obtain ⟨M, hM⟩ : ∃ M, (if (if kind < id then id else kind) < window then window else (if kind < id then id else kind)) = M := ⟨_, rfl⟩
      have HM := Aside0.mk (show mx (mx kind id) window = M from hM)
      by_cases q2 : M > 1000
      · have q2b : decide (1000 < M) = true := decide_eq_true q2
        rw [show decR n kind id number more window text en ce = (z23, 2) from by unfold decR; rw [if_pos q0, if_pos q1, HM.out, if_pos q2]]
        clear q0 q1 q2
        go_enter Tryd.func14, Tryd.ntmps14
        go_wp2_with (first | ((with_reducible refine gate_dst (N := 2) rfl ?_); refine box_event ?hg (N := 2) ?hd (cs := #[.int .i64 0, .int .i64 0, .int .i64 0, .bool false, .int .i64 0, .string ⟨#[]⟩]) (t := 23) ?hr ?_; (case hd => rfl); (case hg => rfl); (case hr => first | (go_simp; done) | (go_simp; rfl)); intro gq hgq wa hbox hb; have HQa := Aside0.mk hbox; have HBa := Aside0.mk hb; have HQW := Aside0.mk (show w.heap.size ≤ gq by rw [hgq]; exact Nat.le_refl _); have HGa := Aside0.mk (Glob.below HG.out hb); clear hb hbox hgq) | (go_at_call 45; (with_reducible refine (codec_NewReader.calls S S 0 0 wa wa (Glob.below HG.out HBa.out) (Below.refl _ _) rfl).mono ?_); rintro e wb ⟨gr, rfl, hi, hb, hb2⟩; have HI0 := Aside0.mk hi; have HB0 := Aside0.mk hb; clear hi hb hb2) | (go_at_call 46; (with_reducible refine (codec_Reader_List.calls k gr S 0 0 n s1 p1 e1 wa _ HGa.out HI0.out HB0.out HR1.out).mono ?_); rintro e w1 ⟨rfl, hi, hb, hk⟩; have HI1 := Aside0.mk hi; have HB1 := Aside0.mk hb; clear hi hb hk) | (go_at_call 47; (with_reducible refine (codec_Reader_Unsigned.calls k gr s1 p1 e1 kind s2 p2 e2 wa _ HGa.out HI1.out HB1.out HR2.out).mono ?_); rintro e w2 ⟨rfl, hi, hb, hk⟩; have HI2 := Aside0.mk hi; have HB2 := Aside0.mk hb; clear hi hb hk) | (go_at_call 47; (with_reducible refine (codec_Reader_Unsigned.calls k gr s2 p2 e2 id s3 p3 e3 wa _ HGa.out HI2.out HB2.out HR3.out).mono ?_); rintro e w3 ⟨rfl, hi, hb, hk⟩; have HI3 := Aside0.mk hi; have HB3 := Aside0.mk hb; clear hi hb hk) | (go_at_call 48; (with_reducible refine (codec_Reader_Signed.calls k gr s3 p3 e3 number s4 p4 e4 wa _ HGa.out HI3.out HB3.out HR4.out).mono ?_); rintro e w4 ⟨rfl, hi, hb, hk⟩; have HI4 := Aside0.mk hi; have HB4 := Aside0.mk hb; clear hi hb hk) | (go_at_call 49; (with_reducible refine (codec_Reader_Bool.calls k gr s4 p4 e4 more s5 p5 e5 wa _ HGa.out HI4.out HB4.out HR5.out).mono ?_); rintro e w5 ⟨rfl, hi, hb, hk⟩; have HI5 := Aside0.mk hi; have HB5 := Aside0.mk hb; clear hi hb hk) | (go_at_call 47; (with_reducible refine (codec_Reader_Unsigned.calls k gr s5 p5 e5 window s6 p6 e6 wa _ HGa.out HI5.out HB5.out HR6.out).mono ?_); rintro e w6 ⟨rfl, hi, hb, hk⟩; have HI6 := Aside0.mk hi; have HB6 := Aside0.mk hb; clear hi hb hk) | (go_at_call 50; (with_reducible refine (codec_Reader_Text.calls k gr s6 p6 e6 text s7 p7 e7 wa _ HGa.out HI6.out HB6.out HR7.out).mono ?_); rintro e w7 ⟨rfl, hi, hb, hk⟩; have HI7 := Aside0.mk hi; have HB7 := Aside0.mk hb; clear hi hb hk) | (go_at_call 51; (with_reducible refine (codec_Reader_End.calls gr s7 p7 e7 en s8 p8 e8 wa _ HGa.out HI7.out HB7.out HR8.out).mono ?_); rintro e w8 ⟨rfl, hi, hb, hk⟩; have HI8 := Aside0.mk hi; have HB8 := Aside0.mk hb; clear hi hb hk) | (refine wpList_store_row rfl 23 (.tmp 2) (.tmp 44) rfl gq #[.int .i64 0, .int .i64 0, .int .i64 0, .bool false, .int .i64 0, .string ⟨#[]⟩] rfl rfl 23 #[.int .i64 0, .int .i64 0, .int .i64 0, .bool false, .int .i64 0, .string ⟨#[]⟩] (blk_below HQa.out HB8.out) (by kernel_rfl) rfl (by simp [Value.oneCell']) ?_))
        refine bodyPost_ret (results_ct rfl _ _ gq 23 #[.int .i64 0, .int .i64 0, .int .i64 0, .bool false, .int .i64 0, .string ⟨#[]⟩] (0, 0) _ rfl (setRow_heap _ _ _ _ _ _ (blk_below HQa.out HB8.out)) Tryd.underlying23 rfl (by kernel_rfl)) rfl ⟨rfl, ?_⟩
        exact below_setRow (below_step HBa.out HB8.out) HQW.out _
      · have q2b : decide (1000 < M) = false := decide_eq_false q2
        have hsm : kind ≤ 1000 ∧ id ≤ 1000 ∧ window ≤ 1000 := by
          have h2 := hM
          split at h2 <;> split at h2 <;> omega
        have wk : wrap64 kind = kind := by have := HU.out; unfold wrap64; omega
        have wi : wrap64 id = id := by have := HU.out; unfold wrap64; omega
        have ww : wrap64 window = window := by have := HU.out; unfold wrap64; omega
        by_cases q3 : ce = 0
        · have q3b : (ce != 0) = false := by rw [q3]; rfl
          rw [show decR n kind id number more window text en ce = (⟨kind, id, number, more, window, text⟩, 0) from by unfold decR; rw [if_pos q0, if_pos q1, HM.out, if_neg q2, if_pos q3]]
          clear q0 q1 q2 q3 hsm
          go_enter Tryd.func14, Tryd.ntmps14
          go_wp2_with (first | ((with_reducible refine gate_dst (N := 2) rfl ?_); refine box_event ?hg (N := 2) ?hd (cs := #[.int .i64 0, .int .i64 0, .int .i64 0, .bool false, .int .i64 0, .string ⟨#[]⟩]) (t := 23) ?hr ?_; (case hd => rfl); (case hg => rfl); (case hr => first | (go_simp; done) | (go_simp; rfl)); intro gq hgq wa hbox hb; have HQa := Aside0.mk hbox; have HBa := Aside0.mk hb; have HQW := Aside0.mk (show w.heap.size ≤ gq by rw [hgq]; exact Nat.le_refl _); have HGa := Aside0.mk (Glob.below HG.out hb); clear hb hbox hgq) | (go_at_call 45; (with_reducible refine (codec_NewReader.calls S S 0 0 wa wa (Glob.below HG.out HBa.out) (Below.refl _ _) rfl).mono ?_); rintro e wb ⟨gr, rfl, hi, hb, hb2⟩; have HI0 := Aside0.mk hi; have HB0 := Aside0.mk hb; clear hi hb hb2) | (go_at_call 46; (with_reducible refine (codec_Reader_List.calls k gr S 0 0 n s1 p1 e1 wa _ HGa.out HI0.out HB0.out HR1.out).mono ?_); rintro e w1 ⟨rfl, hi, hb, hk⟩; have HI1 := Aside0.mk hi; have HB1 := Aside0.mk hb; clear hi hb hk) | (go_at_call 47; (with_reducible refine (codec_Reader_Unsigned.calls k gr s1 p1 e1 kind s2 p2 e2 wa _ HGa.out HI1.out HB1.out HR2.out).mono ?_); rintro e w2 ⟨rfl, hi, hb, hk⟩; have HI2 := Aside0.mk hi; have HB2 := Aside0.mk hb; clear hi hb hk) | (go_at_call 47; (with_reducible refine (codec_Reader_Unsigned.calls k gr s2 p2 e2 id s3 p3 e3 wa _ HGa.out HI2.out HB2.out HR3.out).mono ?_); rintro e w3 ⟨rfl, hi, hb, hk⟩; have HI3 := Aside0.mk hi; have HB3 := Aside0.mk hb; clear hi hb hk) | (go_at_call 48; (with_reducible refine (codec_Reader_Signed.calls k gr s3 p3 e3 number s4 p4 e4 wa _ HGa.out HI3.out HB3.out HR4.out).mono ?_); rintro e w4 ⟨rfl, hi, hb, hk⟩; have HI4 := Aside0.mk hi; have HB4 := Aside0.mk hb; clear hi hb hk) | (go_at_call 49; (with_reducible refine (codec_Reader_Bool.calls k gr s4 p4 e4 more s5 p5 e5 wa _ HGa.out HI4.out HB4.out HR5.out).mono ?_); rintro e w5 ⟨rfl, hi, hb, hk⟩; have HI5 := Aside0.mk hi; have HB5 := Aside0.mk hb; clear hi hb hk) | (go_at_call 47; (with_reducible refine (codec_Reader_Unsigned.calls k gr s5 p5 e5 window s6 p6 e6 wa _ HGa.out HI5.out HB5.out HR6.out).mono ?_); rintro e w6 ⟨rfl, hi, hb, hk⟩; have HI6 := Aside0.mk hi; have HB6 := Aside0.mk hb; clear hi hb hk) | (go_at_call 50; (with_reducible refine (codec_Reader_Text.calls k gr s6 p6 e6 text s7 p7 e7 wa _ HGa.out HI6.out HB6.out HR7.out).mono ?_); rintro e w7 ⟨rfl, hi, hb, hk⟩; have HI7 := Aside0.mk hi; have HB7 := Aside0.mk hb; clear hi hb hk) | (go_at_call 51; (with_reducible refine (codec_Reader_End.calls gr s7 p7 e7 en s8 p8 e8 wa _ HGa.out HI7.out HB7.out HR8.out).mono ?_); rintro e w8 ⟨rfl, hi, hb, hk⟩; have HI8 := Aside0.mk hi; have HB8 := Aside0.mk hb; clear hi hb hk) | ((with_reducible refine gate_dst (N := 12) rfl ?_); refine box_event ?hg (N := 12) ?hd (cs := #[.int .i64 0, .int .i64 0, .int .i64 0, .bool false, .int .i64 0, .string ⟨#[]⟩]) (t := 23) ?hr ?_; (case hd => rfl); (case hg => rfl); (case hr => first | (go_simp; done) | (go_simp; rfl)); intro gp hgp wp hbox hb; have HPp := Aside0.mk hbox; have HQp := Aside0.mk (blk_below (blk_below HQa.out HB8.out) hb); have HBp := Aside0.mk (below_step (below_step HBa.out HB8.out) hb); have HNE := Aside0.mk (show gq ≠ gp by rw [hgp]; exact Nat.ne_of_lt (blk_lt (blk_below HQa.out HB8.out))); have HGP := Aside0.mk (show w.heap.size ≤ gp by rw [hgp]; exact (below_step HBa.out HB8.out).size); clear hb hbox hgp) | (refine wpList_store_row rfl 23 (.tmp 12) (.tmp 54) rfl gp #[.int .i64 kind, .int .i64 id, .int .i64 number, .bool more, .int .i64 window, .string text] rfl rfl 23 #[.int .i64 0, .int .i64 0, .int .i64 0, .bool false, .int .i64 0, .string ⟨#[]⟩] HPp.out (by kernel_rfl) rfl (by simp [Value.oneCell']) ?_; have HPr := Aside0.mk (setRow_heap _ _ _ #[.int .i64 kind, .int .i64 id, .int .i64 number, .bool more, .int .i64 window, .string text] _ _ HPp.out); have HQr := Aside0.mk ((setRow_other wp gp gq #[.int .i64 kind, .int .i64 id, .int .i64 number, .bool more, .int .i64 window, .string text] HNE.out).trans HQp.out); have HBr := Aside0.mk (below_setRow HBp.out HGP.out #[.int .i64 kind, .int .i64 id, .int .i64 number, .bool more, .int .i64 window, .string text]); generalize wp.setRow gp #[.int .i64 kind, .int .i64 id, .int .i64 number, .bool more, .int .i64 window, .string text] = wr at HPr HQr HBr ⊢) | (refine wpList_load_row rfl 23 (.tmp 12) rfl gp rfl 23 #[.int .i64 kind, .int .i64 id, .int .i64 number, .bool more, .int .i64 window, .string text] (0, 0) _ HPr.out Tryd.underlying23 rfl (by kernel_rfl) ?_) | (go_at_call 16; (with_reducible refine (segment_Check.calls k kind id number more window text ce _ (Glob.below HG.out HBr.out) HCK.out).mono ?_); rintro e wc ⟨rfl, hb⟩; have HPc := Aside0.mk (blk_below HPr.out hb); have HQc := Aside0.mk (blk_below HQr.out hb); have HBc := Aside0.mk (below_step HBr.out hb); clear hb) | (refine wpList_store_row rfl 23 (.tmp 2) (.tmp 59) rfl gq #[.int .i64 0, .int .i64 0, .int .i64 0, .bool false, .int .i64 0, .string ⟨#[]⟩] rfl rfl 23 #[.int .i64 0, .int .i64 0, .int .i64 0, .bool false, .int .i64 0, .string ⟨#[]⟩] HQc.out (by kernel_rfl) rfl (by simp [Value.oneCell']) ?_) | (refine wpList_load_row rfl 23 (.tmp 12) rfl gp rfl 23 #[.int .i64 kind, .int .i64 id, .int .i64 number, .bool more, .int .i64 window, .string text] (0, 0) _ HPc.out Tryd.underlying23 rfl (by kernel_rfl) ?_) | (refine wpList_store_row rfl 23 (.tmp 2) (.tmp 61) rfl gq #[.int .i64 kind, .int .i64 id, .int .i64 number, .bool more, .int .i64 window, .string text] rfl rfl 23 #[.int .i64 0, .int .i64 0, .int .i64 0, .bool false, .int .i64 0, .string ⟨#[]⟩] HQc.out (by kernel_rfl) rfl (by simp [Value.oneCell']) ?_))
          refine bodyPost_ret (results_ct rfl _ _ gq 23 #[.int .i64 kind, .int .i64 id, .int .i64 number, .bool more, .int .i64 window, .string text] (0, 0) _ rfl (setRow_heap _ _ _ _ _ _ HQc.out) Tryd.underlying23 rfl (by kernel_rfl)) rfl ⟨rfl, ?_⟩
          exact below_setRow HBc.out HQW.out _
        · have q3b : (ce != 0) = true := bne_iff_ne.mpr q3
          rw [show decR n kind id number more window text en ce = (z23, ce) from by unfold decR; rw [if_pos q0, if_pos q1, HM.out, if_neg q2, if_neg q3]]
          clear q0 q1 q2 q3 hsm
          go_enter Tryd.func14, Tryd.ntmps14
          go_wp2_with (first | ((with_reducible refine gate_dst (N := 2) rfl ?_); refine box_event ?hg (N := 2) ?hd (cs := #[.int .i64 0, .int .i64 0, .int .i64 0, .bool false, .int .i64 0, .string ⟨#[]⟩]) (t := 23) ?hr ?_; (case hd => rfl); (case hg => rfl); (case hr => first | (go_simp; done) | (go_simp; rfl)); intro gq hgq wa hbox hb; have HQa := Aside0.mk hbox; have HBa := Aside0.mk hb; have HQW := Aside0.mk (show w.heap.size ≤ gq by rw [hgq]; exact Nat.le_refl _); have HGa := Aside0.mk (Glob.below HG.out hb); clear hb hbox hgq) | (go_at_call 45; (with_reducible refine (codec_NewReader.calls S S 0 0 wa wa (Glob.below HG.out HBa.out) (Below.refl _ _) rfl).mono ?_); rintro e wb ⟨gr, rfl, hi, hb, hb2⟩; have HI0 := Aside0.mk hi; have HB0 := Aside0.mk hb; clear hi hb hb2) | (go_at_call 46; (with_reducible refine (codec_Reader_List.calls k gr S 0 0 n s1 p1 e1 wa _ HGa.out HI0.out HB0.out HR1.out).mono ?_); rintro e w1 ⟨rfl, hi, hb, hk⟩; have HI1 := Aside0.mk hi; have HB1 := Aside0.mk hb; clear hi hb hk) | (go_at_call 47; (with_reducible refine (codec_Reader_Unsigned.calls k gr s1 p1 e1 kind s2 p2 e2 wa _ HGa.out HI1.out HB1.out HR2.out).mono ?_); rintro e w2 ⟨rfl, hi, hb, hk⟩; have HI2 := Aside0.mk hi; have HB2 := Aside0.mk hb; clear hi hb hk) | (go_at_call 47; (with_reducible refine (codec_Reader_Unsigned.calls k gr s2 p2 e2 id s3 p3 e3 wa _ HGa.out HI2.out HB2.out HR3.out).mono ?_); rintro e w3 ⟨rfl, hi, hb, hk⟩; have HI3 := Aside0.mk hi; have HB3 := Aside0.mk hb; clear hi hb hk) | (go_at_call 48; (with_reducible refine (codec_Reader_Signed.calls k gr s3 p3 e3 number s4 p4 e4 wa _ HGa.out HI3.out HB3.out HR4.out).mono ?_); rintro e w4 ⟨rfl, hi, hb, hk⟩; have HI4 := Aside0.mk hi; have HB4 := Aside0.mk hb; clear hi hb hk) | (go_at_call 49; (with_reducible refine (codec_Reader_Bool.calls k gr s4 p4 e4 more s5 p5 e5 wa _ HGa.out HI4.out HB4.out HR5.out).mono ?_); rintro e w5 ⟨rfl, hi, hb, hk⟩; have HI5 := Aside0.mk hi; have HB5 := Aside0.mk hb; clear hi hb hk) | (go_at_call 47; (with_reducible refine (codec_Reader_Unsigned.calls k gr s5 p5 e5 window s6 p6 e6 wa _ HGa.out HI5.out HB5.out HR6.out).mono ?_); rintro e w6 ⟨rfl, hi, hb, hk⟩; have HI6 := Aside0.mk hi; have HB6 := Aside0.mk hb; clear hi hb hk) | (go_at_call 50; (with_reducible refine (codec_Reader_Text.calls k gr s6 p6 e6 text s7 p7 e7 wa _ HGa.out HI6.out HB6.out HR7.out).mono ?_); rintro e w7 ⟨rfl, hi, hb, hk⟩; have HI7 := Aside0.mk hi; have HB7 := Aside0.mk hb; clear hi hb hk) | (go_at_call 51; (with_reducible refine (codec_Reader_End.calls gr s7 p7 e7 en s8 p8 e8 wa _ HGa.out HI7.out HB7.out HR8.out).mono ?_); rintro e w8 ⟨rfl, hi, hb, hk⟩; have HI8 := Aside0.mk hi; have HB8 := Aside0.mk hb; clear hi hb hk) | ((with_reducible refine gate_dst (N := 12) rfl ?_); refine box_event ?hg (N := 12) ?hd (cs := #[.int .i64 0, .int .i64 0, .int .i64 0, .bool false, .int .i64 0, .string ⟨#[]⟩]) (t := 23) ?hr ?_; (case hd => rfl); (case hg => rfl); (case hr => first | (go_simp; done) | (go_simp; rfl)); intro gp hgp wp hbox hb; have HPp := Aside0.mk hbox; have HQp := Aside0.mk (blk_below (blk_below HQa.out HB8.out) hb); have HBp := Aside0.mk (below_step (below_step HBa.out HB8.out) hb); have HNE := Aside0.mk (show gq ≠ gp by rw [hgp]; exact Nat.ne_of_lt (blk_lt (blk_below HQa.out HB8.out))); have HGP := Aside0.mk (show w.heap.size ≤ gp by rw [hgp]; exact (below_step HBa.out HB8.out).size); clear hb hbox hgp) | (refine wpList_store_row rfl 23 (.tmp 12) (.tmp 54) rfl gp #[.int .i64 kind, .int .i64 id, .int .i64 number, .bool more, .int .i64 window, .string text] rfl rfl 23 #[.int .i64 0, .int .i64 0, .int .i64 0, .bool false, .int .i64 0, .string ⟨#[]⟩] HPp.out (by kernel_rfl) rfl (by simp [Value.oneCell']) ?_; have HPr := Aside0.mk (setRow_heap _ _ _ #[.int .i64 kind, .int .i64 id, .int .i64 number, .bool more, .int .i64 window, .string text] _ _ HPp.out); have HQr := Aside0.mk ((setRow_other wp gp gq #[.int .i64 kind, .int .i64 id, .int .i64 number, .bool more, .int .i64 window, .string text] HNE.out).trans HQp.out); have HBr := Aside0.mk (below_setRow HBp.out HGP.out #[.int .i64 kind, .int .i64 id, .int .i64 number, .bool more, .int .i64 window, .string text]); generalize wp.setRow gp #[.int .i64 kind, .int .i64 id, .int .i64 number, .bool more, .int .i64 window, .string text] = wr at HPr HQr HBr ⊢) | (refine wpList_load_row rfl 23 (.tmp 12) rfl gp rfl 23 #[.int .i64 kind, .int .i64 id, .int .i64 number, .bool more, .int .i64 window, .string text] (0, 0) _ HPr.out Tryd.underlying23 rfl (by kernel_rfl) ?_) | (go_at_call 16; (with_reducible refine (segment_Check.calls k kind id number more window text ce _ (Glob.below HG.out HBr.out) HCK.out).mono ?_); rintro e wc ⟨rfl, hb⟩; have HPc := Aside0.mk (blk_below HPr.out hb); have HQc := Aside0.mk (blk_below HQr.out hb); have HBc := Aside0.mk (below_step HBr.out hb); clear hb) | (refine wpList_store_row rfl 23 (.tmp 2) (.tmp 59) rfl gq #[.int .i64 0, .int .i64 0, .int .i64 0, .bool false, .int .i64 0, .string ⟨#[]⟩] rfl rfl 23 #[.int .i64 0, .int .i64 0, .int .i64 0, .bool false, .int .i64 0, .string ⟨#[]⟩] HQc.out (by kernel_rfl) rfl (by simp [Value.oneCell']) ?_) | (refine wpList_load_row rfl 23 (.tmp 12) rfl gp rfl 23 #[.int .i64 kind, .int .i64 id, .int .i64 number, .bool more, .int .i64 window, .string text] (0, 0) _ HPc.out Tryd.underlying23 rfl (by kernel_rfl) ?_) | (refine wpList_store_row rfl 23 (.tmp 2) (.tmp 61) rfl gq #[.int .i64 kind, .int .i64 id, .int .i64 number, .bool more, .int .i64 window, .string text] rfl rfl 23 #[.int .i64 0, .int .i64 0, .int .i64 0, .bool false, .int .i64 0, .string ⟨#[]⟩] HQc.out (by kernel_rfl) rfl (by simp [Value.oneCell']) ?_))
          refine bodyPost_ret (results_ct rfl _ _ gq 23 #[.int .i64 0, .int .i64 0, .int .i64 0, .bool false, .int .i64 0, .string ⟨#[]⟩] (0, 0) _ rfl (setRow_heap _ _ _ _ _ _ HQc.out) Tryd.underlying23 rfl (by kernel_rfl)) rfl ⟨rfl, ?_⟩
          exact below_setRow HBc.out HQW.out _
    · have q1b : (n != 6) = true := bne_iff_ne.mpr q1
      rw [show decR n kind id number more window text en ce = (z23, 2) from by unfold decR; rw [if_pos q0, if_neg q1]]
      clear q0 q1
      go_enter Tryd.func14, Tryd.ntmps14
      go_wp2_with (first | ((with_reducible refine gate_dst (N := 2) rfl ?_); refine box_event ?hg (N := 2) ?hd (cs := #[.int .i64 0, .int .i64 0, .int .i64 0, .bool false, .int .i64 0, .string ⟨#[]⟩]) (t := 23) ?hr ?_; (case hd => rfl); (case hg => rfl); (case hr => first | (go_simp; done) | (go_simp; rfl)); intro gq hgq wa hbox hb; have HQa := Aside0.mk hbox; have HBa := Aside0.mk hb; have HQW := Aside0.mk (show w.heap.size ≤ gq by rw [hgq]; exact Nat.le_refl _); have HGa := Aside0.mk (Glob.below HG.out hb); clear hb hbox hgq) | (go_at_call 45; (with_reducible refine (codec_NewReader.calls S S 0 0 wa wa (Glob.below HG.out HBa.out) (Below.refl _ _) rfl).mono ?_); rintro e wb ⟨gr, rfl, hi, hb, hb2⟩; have HI0 := Aside0.mk hi; have HB0 := Aside0.mk hb; clear hi hb hb2) | (go_at_call 46; (with_reducible refine (codec_Reader_List.calls k gr S 0 0 n s1 p1 e1 wa _ HGa.out HI0.out HB0.out HR1.out).mono ?_); rintro e w1 ⟨rfl, hi, hb, hk⟩; have HI1 := Aside0.mk hi; have HB1 := Aside0.mk hb; clear hi hb hk) | (go_at_call 47; (with_reducible refine (codec_Reader_Unsigned.calls k gr s1 p1 e1 kind s2 p2 e2 wa _ HGa.out HI1.out HB1.out HR2.out).mono ?_); rintro e w2 ⟨rfl, hi, hb, hk⟩; have HI2 := Aside0.mk hi; have HB2 := Aside0.mk hb; clear hi hb hk) | (go_at_call 47; (with_reducible refine (codec_Reader_Unsigned.calls k gr s2 p2 e2 id s3 p3 e3 wa _ HGa.out HI2.out HB2.out HR3.out).mono ?_); rintro e w3 ⟨rfl, hi, hb, hk⟩; have HI3 := Aside0.mk hi; have HB3 := Aside0.mk hb; clear hi hb hk) | (go_at_call 48; (with_reducible refine (codec_Reader_Signed.calls k gr s3 p3 e3 number s4 p4 e4 wa _ HGa.out HI3.out HB3.out HR4.out).mono ?_); rintro e w4 ⟨rfl, hi, hb, hk⟩; have HI4 := Aside0.mk hi; have HB4 := Aside0.mk hb; clear hi hb hk) | (go_at_call 49; (with_reducible refine (codec_Reader_Bool.calls k gr s4 p4 e4 more s5 p5 e5 wa _ HGa.out HI4.out HB4.out HR5.out).mono ?_); rintro e w5 ⟨rfl, hi, hb, hk⟩; have HI5 := Aside0.mk hi; have HB5 := Aside0.mk hb; clear hi hb hk) | (go_at_call 47; (with_reducible refine (codec_Reader_Unsigned.calls k gr s5 p5 e5 window s6 p6 e6 wa _ HGa.out HI5.out HB5.out HR6.out).mono ?_); rintro e w6 ⟨rfl, hi, hb, hk⟩; have HI6 := Aside0.mk hi; have HB6 := Aside0.mk hb; clear hi hb hk) | (go_at_call 50; (with_reducible refine (codec_Reader_Text.calls k gr s6 p6 e6 text s7 p7 e7 wa _ HGa.out HI6.out HB6.out HR7.out).mono ?_); rintro e w7 ⟨rfl, hi, hb, hk⟩; have HI7 := Aside0.mk hi; have HB7 := Aside0.mk hb; clear hi hb hk) | (go_at_call 51; (with_reducible refine (codec_Reader_End.calls gr s7 p7 e7 en s8 p8 e8 wa _ HGa.out HI7.out HB7.out HR8.out).mono ?_); rintro e w8 ⟨rfl, hi, hb, hk⟩; have HI8 := Aside0.mk hi; have HB8 := Aside0.mk hb; clear hi hb hk) | (refine wpList_store_row rfl 23 (.tmp 2) (.tmp 44) rfl gq #[.int .i64 0, .int .i64 0, .int .i64 0, .bool false, .int .i64 0, .string ⟨#[]⟩] rfl rfl 23 #[.int .i64 0, .int .i64 0, .int .i64 0, .bool false, .int .i64 0, .string ⟨#[]⟩] (blk_below HQa.out HB8.out) (by kernel_rfl) rfl (by simp [Value.oneCell']) ?_))
      refine bodyPost_ret (results_ct rfl _ _ gq 23 #[.int .i64 0, .int .i64 0, .int .i64 0, .bool false, .int .i64 0, .string ⟨#[]⟩] (0, 0) _ rfl (setRow_heap _ _ _ _ _ _ (blk_below HQa.out HB8.out)) Tryd.underlying23 rfl (by kernel_rfl)) rfl ⟨rfl, ?_⟩
      exact below_setRow (below_step HBa.out HB8.out) HQW.out _
  · have q0b : (en != 0) = true := bne_iff_ne.mpr q0
    rw [show decR n kind id number more window text en ce = (z23, 2) from by unfold decR; rw [if_neg q0]]
    clear q0
    go_enter Tryd.func14, Tryd.ntmps14
    go_wp2_with (first | ((with_reducible refine gate_dst (N := 2) rfl ?_); refine box_event ?hg (N := 2) ?hd (cs := #[.int .i64 0, .int .i64 0, .int .i64 0, .bool false, .int .i64 0, .string ⟨#[]⟩]) (t := 23) ?hr ?_; (case hd => rfl); (case hg => rfl); (case hr => first | (go_simp; done) | (go_simp; rfl)); intro gq hgq wa hbox hb; have HQa := Aside0.mk hbox; have HBa := Aside0.mk hb; have HQW := Aside0.mk (show w.heap.size ≤ gq by rw [hgq]; exact Nat.le_refl _); have HGa := Aside0.mk (Glob.below HG.out hb); clear hb hbox hgq) | (go_at_call 45; (with_reducible refine (codec_NewReader.calls S S 0 0 wa wa (Glob.below HG.out HBa.out) (Below.refl _ _) rfl).mono ?_); rintro e wb ⟨gr, rfl, hi, hb, hb2⟩; have HI0 := Aside0.mk hi; have HB0 := Aside0.mk hb; clear hi hb hb2) | (go_at_call 46; (with_reducible refine (codec_Reader_List.calls k gr S 0 0 n s1 p1 e1 wa _ HGa.out HI0.out HB0.out HR1.out).mono ?_); rintro e w1 ⟨rfl, hi, hb, hk⟩; have HI1 := Aside0.mk hi; have HB1 := Aside0.mk hb; clear hi hb hk) | (go_at_call 47; (with_reducible refine (codec_Reader_Unsigned.calls k gr s1 p1 e1 kind s2 p2 e2 wa _ HGa.out HI1.out HB1.out HR2.out).mono ?_); rintro e w2 ⟨rfl, hi, hb, hk⟩; have HI2 := Aside0.mk hi; have HB2 := Aside0.mk hb; clear hi hb hk) | (go_at_call 47; (with_reducible refine (codec_Reader_Unsigned.calls k gr s2 p2 e2 id s3 p3 e3 wa _ HGa.out HI2.out HB2.out HR3.out).mono ?_); rintro e w3 ⟨rfl, hi, hb, hk⟩; have HI3 := Aside0.mk hi; have HB3 := Aside0.mk hb; clear hi hb hk) | (go_at_call 48; (with_reducible refine (codec_Reader_Signed.calls k gr s3 p3 e3 number s4 p4 e4 wa _ HGa.out HI3.out HB3.out HR4.out).mono ?_); rintro e w4 ⟨rfl, hi, hb, hk⟩; have HI4 := Aside0.mk hi; have HB4 := Aside0.mk hb; clear hi hb hk) | (go_at_call 49; (with_reducible refine (codec_Reader_Bool.calls k gr s4 p4 e4 more s5 p5 e5 wa _ HGa.out HI4.out HB4.out HR5.out).mono ?_); rintro e w5 ⟨rfl, hi, hb, hk⟩; have HI5 := Aside0.mk hi; have HB5 := Aside0.mk hb; clear hi hb hk) | (go_at_call 47; (with_reducible refine (codec_Reader_Unsigned.calls k gr s5 p5 e5 window s6 p6 e6 wa _ HGa.out HI5.out HB5.out HR6.out).mono ?_); rintro e w6 ⟨rfl, hi, hb, hk⟩; have HI6 := Aside0.mk hi; have HB6 := Aside0.mk hb; clear hi hb hk) | (go_at_call 50; (with_reducible refine (codec_Reader_Text.calls k gr s6 p6 e6 text s7 p7 e7 wa _ HGa.out HI6.out HB6.out HR7.out).mono ?_); rintro e w7 ⟨rfl, hi, hb, hk⟩; have HI7 := Aside0.mk hi; have HB7 := Aside0.mk hb; clear hi hb hk) | (go_at_call 51; (with_reducible refine (codec_Reader_End.calls gr s7 p7 e7 en s8 p8 e8 wa _ HGa.out HI7.out HB7.out HR8.out).mono ?_); rintro e w8 ⟨rfl, hi, hb, hk⟩; have HI8 := Aside0.mk hi; have HB8 := Aside0.mk hb; clear hi hb hk) | (refine wpList_store_row rfl 23 (.tmp 2) (.tmp 44) rfl gq #[.int .i64 0, .int .i64 0, .int .i64 0, .bool false, .int .i64 0, .string ⟨#[]⟩] rfl rfl 23 #[.int .i64 0, .int .i64 0, .int .i64 0, .bool false, .int .i64 0, .string ⟨#[]⟩] (blk_below HQa.out HB8.out) (by kernel_rfl) rfl (by simp [Value.oneCell']) ?_))
    refine bodyPost_ret (results_ct rfl _ _ gq 23 #[.int .i64 0, .int .i64 0, .int .i64 0, .bool false, .int .i64 0, .string ⟨#[]⟩] (0, 0) _ rfl (setRow_heap _ _ _ _ _ _ (blk_below HQa.out HB8.out)) Tryd.underlying23 rfl (by kernel_rfl)) rfl ⟨rfl, ?_⟩
    exact below_setRow (below_step HBa.out HB8.out) HQW.out _
end Go.Proofs.YtbgabhknmpbgiaaDoor.S
end
section
namespace Go.Proofs.YtbgabhknmpbgiaaDoor.S
open Go.RowKit Go.Proofs.YtbgabhknmpbgiaaDoor.Pure Go.Proofs.YtbgabhknmpbgiaaDoorW.PrintWords Go.Proofs.YtbgabhknmpbgiaaDoorW.PrintLast Go.Proofs.YtbgabhknmpbgiaaDoorW.PrintMore
set_option linter.unusedVariables false
def segment_Decode.f (a0 : ByteArray) : Option (Int × Int × Int × Bool × Int × ByteArray × Int) :=
  (codec_Reader_List.f 40 a0 0 0).bind fun x1 => (codec_Reader_Unsigned.f 40 x1.2.1 x1.2.2.1 x1.2.2.2).bind fun x2 => (codec_Reader_Unsigned.f 40 x2.2.1 x2.2.2.1 x2.2.2.2).bind fun x3 => (codec_Reader_Signed.f 40 x3.2.1 x3.2.2.1 x3.2.2.2).bind fun x4 => (codec_Reader_Bool.f 40 x4.2.1 x4.2.2.1 x4.2.2.2).bind fun x5 => (codec_Reader_Unsigned.f 40 x5.2.1 x5.2.2.1 x5.2.2.2).bind fun x6 => (codec_Reader_Text.f 40 x6.2.1 x6.2.2.1 x6.2.2.2).bind fun x7 => (codec_Reader_End.f x7.2.1 x7.2.2.1 x7.2.2.2).bind fun x8 => (segment_Check.f 40 x2.1 x3.1 x4.1 x5.1 x6.1 x7.1).bind fun ce => if 0 ≤ x2.1 ∧ 0 ≤ x3.1 ∧ 0 ≤ x6.1 then some ((decR x1.1 x2.1 x3.1 x4.1 x5.1 x6.1 x7.1 x8.1 ce).1.f0, (decR x1.1 x2.1 x3.1 x4.1 x5.1 x6.1 x7.1 x8.1 ce).1.f1, (decR x1.1 x2.1 x3.1 x4.1 x5.1 x6.1 x7.1 x8.1 ce).1.f2, (decR x1.1 x2.1 x3.1 x4.1 x5.1 x6.1 x7.1 x8.1 ce).1.f3, (decR x1.1 x2.1 x3.1 x4.1 x5.1 x6.1 x7.1 x8.1 ce).1.f4, (decR x1.1 x2.1 x3.1 x4.1 x5.1 x6.1 x7.1 x8.1 ce).1.f5, (decR x1.1 x2.1 x3.1 x4.1 x5.1 x6.1 x7.1 x8.1 ce).2) else none
theorem segment_Decode.calls (a0 : ByteArray) (r1 : Int) (r2 : Int) (r3 : Int) (r4 : Bool) (r5 : Int) (r6 : ByteArray) (r7 : Int) (w : World) (hG : Glob w) (h : segment_Decode.f a0 = some (r1, r2, r3, r4, r5, r6, r7)) :
    Calls Tryd.prog 14 #[.string a0] w fun e w' => e = .returned (.tuple #[.agg #[.int .i64 r1, .int .i64 r2, .int .i64 r3, .bool r4, .int .i64 r5, .string r6], .int .i64 r7]) ∧ Below w.heap.size w w' := by
  unfold segment_Decode.f at h
  obtain ⟨⟨x1, s1, p1, e1⟩, h1, h⟩ := Option.bind_eq_some_iff.mp h
  obtain ⟨⟨x2, s2, p2, e2⟩, h2, h⟩ := Option.bind_eq_some_iff.mp h
  obtain ⟨⟨x3, s3, p3, e3⟩, h3, h⟩ := Option.bind_eq_some_iff.mp h
  obtain ⟨⟨x4, s4, p4, e4⟩, h4, h⟩ := Option.bind_eq_some_iff.mp h
  obtain ⟨⟨x5, s5, p5, e5⟩, h5, h⟩ := Option.bind_eq_some_iff.mp h
  obtain ⟨⟨x6, s6, p6, e6⟩, h6, h⟩ := Option.bind_eq_some_iff.mp h
  obtain ⟨⟨x7, s7, p7, e7⟩, h7, h⟩ := Option.bind_eq_some_iff.mp h
  obtain ⟨⟨x8, s8, p8, e8⟩, h8, h⟩ := Option.bind_eq_some_iff.mp h
  obtain ⟨ce, hc, h⟩ := Option.bind_eq_some_iff.mp h
  by_cases q : 0 ≤ x2 ∧ 0 ≤ x3 ∧ 0 ≤ x6
  · rw [if_pos q] at h
    injection h with h
    injection h with z1 h
    injection h with z2 h
    injection h with z3 h
    injection h with z4 h
    injection h with z5 h
    injection h with z6 z7
    refine (decode_calls 40 a0 x1 x2 x3 x4 x5 x6 x7 x8 s1 s2 s3 s4 s5 s6 s7 s8 p1 e1 p2 e2 p3 e3 p4 e4 p5 e5 p6 e6 p7 e7 p8 e8 h1 h2 h3 h4 h5 h6 h7 h8 ce w hG hc q).mono ?_
    rintro e w' ⟨he, hb⟩
    rw [z1, z2, z3, z4, z5, z6, z7] at he
    exact ⟨he, hb⟩
  · rw [if_neg q] at h
    cases h
end Go.Proofs.YtbgabhknmpbgiaaDoor.S
end
section
namespace Go.Proofs.YtbgabhknmpbgiaaDoor.S
open Go.RowKit Go.Proofs.YtbgabhknmpbgiaaDoor.Pure Go.Proofs.YtbgabhknmpbgiaaDoorW.PrintWords Go.Proofs.YtbgabhknmpbgiaaDoorW.PrintLast Go.Proofs.YtbgabhknmpbgiaaDoorW.PrintMore
set_option linter.unusedVariables false
set_option linter.unusedSimpArgs false
attribute [local go_sem] max2_int min2_int max_two min_two
abbrev msgA : ByteArray := ⟨#[97, 98, 99, 100, 101, 102, 103]⟩
def segsA : List ByteArray := [⟨#[97, 98, 99]⟩, ⟨#[100, 101, 102]⟩, ⟨#[103]⟩]
def P0 : S23 := ⟨1, 5, 0, true, 2, ⟨#[97, 98, 99]⟩⟩
def P1 : S23 := ⟨1, 5, 1, true, 2, ⟨#[100, 101, 102]⟩⟩
def P2 : S23 := ⟨1, 5, 2, false, 2, ⟨#[103]⟩⟩
def sA1 : Sn := ⟨5, 2, 10, 1, segsA, 0, 0, 2, 0, 110⟩
def sA2 : Sn := ⟨5, 2, 10, 1, segsA, 0, 0, 2, 1, 120⟩
def sA3 : Sn := ⟨5, 2, 10, 1, segsA, 0, 2, 3, 0, 123⟩
def rA0 : Rn := ⟨5, 30, 0, 0, [], 130⟩
def rA1 : Rn := ⟨5, 30, 0, 0, [], 131⟩
def rA2 : Rn := ⟨5, 30, 0, 1, [97, 98, 99], 141⟩
def rA3 : Rn := ⟨5, 30, 0, 2, [97, 98, 99, 100, 101, 102], 142⟩
def rA4 : Rn := ⟨5, 30, 1, 3, [97, 98, 99, 100, 101, 102, 103], 144⟩
def ackA (n : Int) : S23 := ⟨2, 5, n, false, 0, ⟨#[]⟩⟩
def encS : ByteArray := strOfNums (encB P0)
theorem Pt.C {n l c : Nat} {w : World} {A : Option Addr} {xs : List S23} (h : Pt n w (.slice A l c) xs) : Kd.C k23 w A xs.length xs := by
  obtain ⟨A', e, hC⟩ := h.slice
  injection e with e1
  exact e1 ▸ hC
structure AtE (w : World) (ad : Addr) (o : Nat) (x : S23) : Prop where
  c0 : w.cell? (if o = 0 then ad else ⟨ad.block, ad.off + o, none⟩) = some (.int .i64 x.f0)
  c1 : w.cell? ⟨ad.block, ad.off + o + 1, none⟩ = some (.int .i64 x.f1)
  c2 : w.cell? ⟨ad.block, ad.off + o + 2, none⟩ = some (.int .i64 x.f2)
  c3 : w.cell? ⟨ad.block, ad.off + o + 3, none⟩ = some (.bool x.f3)
  c4 : w.cell? ⟨ad.block, ad.off + o + 4, none⟩ = some (.int .i64 x.f4)
  c5 : w.cell? ⟨ad.block, ad.off + o + 5, none⟩ = some (.string x.f5)
theorem Pt.atE {n l c : Nat} {w : World} {ad : Addr} {xs : List S23} (h : Pt n w (.slice (some ad) l c) xs) (i : Nat) (hi : i < xs.length) : AtE w ad (i * 6) (rd_T23 xs i) := by
  obtain ⟨ad', e, h0, h1, h2, h3, h4, h5⟩ := at_T23 h.C (i : Int) (by omega) (by omega)
  obtain rfl := Option.some.inj e
  rw [Int.toNat_natCast] at h0 h1 h2 h3 h4 h5
  simp only [Addr.add] at h0 h1 h2 h3 h4 h5
  have hb : (if i * 6 = 0 then ad else (⟨ad.block, ad.off + i * 6, none⟩ : Addr)).block = ad.block := by split <;> rfl
  have ho : (if i * 6 = 0 then ad else (⟨ad.block, ad.off + i * 6, none⟩ : Addr)).off = ad.off + i * 6 := by split <;> (try omega) <;> (try rfl)
  rw [hb, ho] at h1 h2 h3 h4 h5
  exact ⟨h0, h1, h2, h3, h4, h5⟩
theorem Pt.head_at {n c : Nat} {w : World} {A : Option Addr} {l : Nat} {x : S23} {xs : List S23} (h : Pt n w (.slice A l c) (x :: xs)) : ∃ ad, A = some ad := by
  obtain ⟨ad, e, _⟩ := at_T23 h.C 0 (by decide) (by simp)
  exact ⟨ad, e⟩
theorem splitA : segment_Split.f 40 msgA 3 = some (segsA, 0) := by kernel_rfl
theorem newEA : newE 5 2 10 1 0 = 0 := by kernel_rfl
theorem begA : begE 5 30 = 0 := by kernel_rfl
theorem newA : newS 5 2 10 1 segsA 100 = ([P0, P1], sA1) := by kernel_rfl
theorem hA1 : rA0.handle 1 5 1 true ⟨#[100, 101, 102]⟩ 101 = ([ackA (-1)], rA1) := by kernel_rfl
theorem tA1 : sA1.tick 110 = ([P0, P1], sA2) := by kernel_rfl
theorem hA2 : rA1.handle 1 5 0 true ⟨#[97, 98, 99]⟩ 111 = ([ackA 0], rA2) := by kernel_rfl
theorem hA3 : rA2.handle 1 5 1 true ⟨#[100, 101, 102]⟩ 112 = ([ackA 1], rA3) := by kernel_rfl
theorem shA : sA2.handle 2 5 1 113 = ([P2], sA3) := by kernel_rfl
theorem hA4 : rA3.handle 1 5 2 false ⟨#[103]⟩ 114 = ([ackA 2], rA4) := by kernel_rfl
theorem tA2 : rA4.tick 1000 = ([], rA4) := by kernel_rfl
theorem mA : (if rA4.state = 1 then strOfNums rA4.msg else ⟨#[]⟩) = msgA := by kernel_rfl
theorem encA : segment_Encode.f 1 5 0 true 2 ⟨#[97, 98, 99]⟩ = some (encS, 0) := by kernel_rfl
theorem decA_ : segment_Decode.f encS = some (1, 5, 0, true, 2, ⟨#[97, 98, 99]⟩, 0) := by kernel_rfl
theorem chkA : segment_Check.f 40 1 5 0 true 2 ⟨#[97, 98, 99]⟩ = some 0 := by kernel_rfl
theorem chkZ : segment_Check.f 40 0 0 0 false 0 ⟨#[]⟩ = some 3 := by kernel_rfl
theorem okA1 : OkS sA1 := ⟨by decide, by decide, by decide, by decide, by decide, by decide, by decide⟩
theorem okA2 : OkS sA2 := ⟨by decide, by decide, by decide, by decide, by decide, by decide, by decide⟩
def Row (w : World) (ad : Addr) (cs : List Value) : Prop := ∀ j v, cs[j]? = some v → w.cell? (ad.add j) = some v
theorem Row.below {w w1 : World} {ad : Addr} {cs : List Value} (h : Row w ad cs) (hb : Below w.heap.size w w1) : Row w1 ad cs := fun j v hv => pw_cell_below hb (h j v hv)
theorem row_blk {w : World} {g : Nat} {cs : List Value} {t : TypeId} {fr : Nat × Nat} (h : w.heap[g]? = some (.cells cs.toArray t fr)) : Row w ⟨g, 0, none⟩ cs := fun j v hv => by
  have hadd : (⟨g, 0, none⟩ : Addr).add j = ⟨g, j, none⟩ := by unfold Addr.add; split <;> simp_all
  rw [hadd, cell_of_row w g j _ t fr h]
  simpa using hv
theorem Pt.row {n l c : Nat} {w : World} {ad : Addr} {x : S23} {xs : List S23} (h : Pt n w (.slice (some ad) l c) (x :: xs)) (h0 : 0 < (x :: xs).length) : Row w ad [.int .i64 x.f0, .int .i64 x.f1, .int .i64 x.f2, .bool x.f3, .int .i64 x.f4, .string x.f5] := by
  obtain ⟨c0, c1, c2, c3, c4, c5⟩ := h.atE 0 h0
  have hadd : ∀ j, j ≠ 0 → ad.add j = ⟨ad.block, ad.off + j, none⟩ := fun j hj => by unfold Addr.add; rw [if_neg hj]
  intro j v hv
  rcases j with _ | _ | _ | _ | _ | _ | j
  · injection hv with hv; subst hv; exact c0
  · injection hv with hv; subst hv; rw [hadd 1 (by decide)]; exact c1
  · injection hv with hv; subst hv; rw [hadd 2 (by decide)]; exact c2
  · injection hv with hv; subst hv; rw [hadd 3 (by decide)]; exact c3
  · injection hv with hv; subst hv; rw [hadd 4 (by decide)]; exact c4
  · injection hv with hv; subst hv; rw [hadd 5 (by decide)]; exact c5
  · cases hv
theorem run_loadVar_at {P : Program} (w : World) (ad : Addr) (ty : TypeId) (cs : List Value) (d : TypeDesc) (hc : Row w ad cs)
    (hu : P.underlying ty = some d) (hd : d.isRow = true) (hi : (P.info? ty).map (·.size) = some cs.length) : (loadVar ty ad).run P w = .ok (.agg cs.toArray) w := by
  have hl := run_loadCells_list (P := P) w ad cs hc
  cases hq : P.info? ty with
  | none => simp [hq] at hi
  | some i =>
    have hs : i.size = cs.length := by simpa [hq] using hi
    have hagg : (isAgg ty).run P w = .ok true w := by
      unfold isAgg
      rw [Sem.run_bind, run_underlying hu w]
      cases d <;> simp_all
    simp [loadVar, Sem.run_bind, hagg, sizeOf, typeInfo, hq, hs, hl]
theorem yieldsIf_load_at {P : Program} {ops : Array Oper} {S : World → Prop} {op : Oper} {a : Act} (hw : Region.wanted op (yielded ops a.tmps) = true) (ty : TypeId) (x : Operand) (ho : op.op = .load ty x)
    (ad : Addr) (hx : a.eval x = .pointer (some ad)) (cs : List Value) (d : TypeDesc) (hS : ∀ w, S w → Row w ad cs)
    (hu : P.underlying ty = some d) (hd : d.isRow = true) (hi : (P.info? ty).map (·.size) = some cs.length) : YieldsIf P ops S op (.agg cs.toArray) a :=
  .inl ⟨hw, fun w hw' => by
    unfold execOp
    simp only [ho, hx, Instr.loadAt, Instr.sureAddr, Sem.run_bind, Sem.run_pure, Result.andThen_ok, run_loadVar_at w ad ty cs d (hS w hw') hu hd hi]⟩
theorem stA (B g : Nat) (w : World) (h : RcvAt B g rA4 w) : Calls Tryd.prog 38 #[.pointer (some ⟨g, 0, none⟩)] w fun e w' => e = .returned (.int .i64 1) ∧ w' = w := rstate_calls B g rA4 w h
set_option maxHeartbeats 16000000 in
set_option maxRecDepth 100000 in
theorem sstate_calls (g : Nat) (s : Sn) (w0 w : World) (h : AtP w0 w g s) : Calls Tryd.prog 29 #[.pointer (some ⟨g, 0, none⟩)] w fun e w' => e = .returned (.int .i64 s.state) ∧ w' = w := by
  obtain ⟨id, window, timeout, retries, segs, state, base, next, tries, deadline⟩ := s
  obtain ⟨A4, c4, hG, _⟩ := h
  have c5 := (blk_cell hG 5).trans rfl
  clear hG
  go_enter Tryd.func29, Tryd.ntmps29
  go_wp2
  go_ret
  exact ⟨rfl, rfl⟩
theorem ssA (g : Nat) (w0 w : World) (h : AtP w0 w g sA3) : Calls Tryd.prog 29 #[.pointer (some ⟨g, 0, none⟩)] w fun e w' => e = .returned (.int .i64 0) ∧ w' = w := sstate_calls g sA3 w0 w h
theorem rtA (w0 ws : World) (B gs gr : Nat) (s : Sn) (w : World) (h : Net w0 ws B gs gr s rA4 w) : Calls Tryd.prog 32 #[.pointer (some ⟨gr, 0, none⟩), .int .i64 1000] w fun e w' => ∃ A, e = .returned (.slice A 0 0) ∧ Net w0 ws B gs gr s rA4 w' ∧ Keep23 w w' := by
  refine (rtick_calls B gr rA4 1000 w h.rcv).mono ?_
  intro e w' hp
  rw [tA2] at hp
  obtain ⟨v, rfl, hv, hn, hk⟩ := h.rcall hp
  obtain ⟨A, ev, _⟩ := hv.slice
  subst ev
  exact ⟨A, rfl, hn, hk⟩
set_option maxHeartbeats 16000000 in
set_option maxRecDepth 100000 in
theorem awake_calls (w : World) (hG : Glob w) : Calls Tryd.prog 10 #[] w fun e w' => e = .returned (.bool true) ∧ Below w.heap.size w w' := by
  have HG := Aside0.mk hG
  clear hG
  go_enter Tryd.func10, Tryd.ntmps10
  go_wp2_with (first | (go_at_call 18; (with_reducible refine (segment_Split.calls 40 msgA 3 segsA 0 w HG.out splitA).mono ?_); rintro e w1 ⟨v1, rfl, ho, hb⟩; have HB1 := Aside0.mk hb; obtain ⟨A1, c1, ev, hcl, hC⟩ := Kd.R_reads ho; have ev2 : v1 = .slice A1 3 c1 := ev; clear ev; subst ev2; clear hC hcl ho hb) | (go_at_call 21; (with_reducible refine (newP_calls 40 5 msgA 3 2 10 1 100 segsA 0 w1 (Glob.below HG.out HB1.out) splitA (by decide)).mono ?_); rintro e w2 ⟨_, hp⟩; obtain ⟨gs, v2, ws, rfl, hv, hs, hb0, hb⟩ := hp newEA; rw [newA] at hv hs; obtain ⟨hvv, A2, ev⟩ := hv; have ev2 : v2 = .slice A2 2 2 := ev; clear ev; subst ev2; have HV2 := Aside0.mk (show Pt w1.heap.size w2 (.slice A2 2 2) [P0, P1] from ⟨hvv, A2, rfl⟩); have HS2 := Aside0.mk hs; have HW2 := Aside0.mk hb0; have HB2 := Aside0.mk hb; clear hp hvv hs hb0 hb) | (go_at_call 30; (with_reducible refine (rnew_calls 5 30 100 w2 (Glob.below HG.out (below_step (below_step HB1.out HW2.out) HB2.out))).mono ?_); rintro e w3 ⟨_, hp⟩; obtain ⟨gr, rfl, hr, hb⟩ := hp begA; rw [show wrap64 ((100 : Int) + 30) = 130 by kernel_rfl] at hr; have HN3 := Aside0.mk (show Net w ws w2.heap.size gs gr sA1 rA0 w3 from ⟨HS2.out.below hb, HB2.out.trans (hb.mono HB2.out.size), hr, HB2.out.size, hb.size, Nat.le_trans HB1.out.size HW2.out.size, below_step (below_step (below_step HB1.out HW2.out) HB2.out) hb⟩); have HPa3 := Aside0.mk (HV2.out.keep (Keep23.of_below hb)); clear hp hr hb; obtain ⟨ada, rfl⟩ := HPa3.out.head_at; have h_ := Pt.atE HPa3.out 1 (by decide); have y0 : w3.cell? ⟨ada.block, ada.off + 6, none⟩ = some (.int .i64 1) := h_.c0; have y1 : w3.cell? ⟨ada.block, ada.off + 6 + 1, none⟩ = some (.int .i64 5) := h_.c1; have y2 : w3.cell? ⟨ada.block, ada.off + 6 + 2, none⟩ = some (.int .i64 1) := h_.c2; have y3 : w3.cell? ⟨ada.block, ada.off + 6 + 3, none⟩ = some (.bool true) := h_.c3; have y4 : w3.cell? ⟨ada.block, ada.off + 6 + 4, none⟩ = some (.int .i64 2) := h_.c4; have y5 : w3.cell? ⟨ada.block, ada.off + 6 + 5, none⟩ = some (.string ⟨#[100, 101, 102]⟩) := h_.c5; clear h_; skip) | (go_at_call 34; (with_reducible refine (rhandle_calls w2.heap.size gr rA0 1 5 1 true 2 ⟨#[100, 101, 102]⟩ 101 w3 HN3.out.rcv HN3.out.bw (by decide)).mono ?_); rintro e w4 hp; rw [hA1] at hp; obtain ⟨v4, rfl, hv, hn, hk⟩ := Net.rcall HN3.out hp; have HN4 := Aside0.mk (show Net w ws w2.heap.size gs gr sA1 rA1 w4 from hn); have HPa4 := Aside0.mk (HPa3.out.keep hk); obtain ⟨A4, ev, _⟩ := hv.slice; subst ev; have HPb4 := Aside0.mk (show Pt w3.heap.size w4 (.slice A4 1 1) [ackA (-1)] from hv); clear hv; obtain ⟨adb, rfl⟩ := HPb4.out.head_at; clear y0 y1 y2 y3 y4 y5; clear hp hn hk) | (go_at_call 24; (with_reducible refine (tickP_calls gs sA1 110 ws w4 HN4.out.snd HN4.out.sb okA1).mono ?_); rintro e w5 hp; rw [tA1] at hp; obtain ⟨v5, rfl, hv, hn, hk⟩ := Net.scall HN4.out hp; have HN5 := Aside0.mk (show Net w ws w2.heap.size gs gr sA2 rA1 w5 from hn); have HPa5 := Aside0.mk (HPa4.out.keep hk); have HPb5 := Aside0.mk (HPb4.out.keep hk); obtain ⟨A5, ev, _⟩ := hv.slice; subst ev; have HPc5 := Aside0.mk (show Pt w4.heap.size w5 (.slice A5 2 2) [P0, P1] from hv); clear hv; obtain ⟨adc, rfl⟩ := HPc5.out.head_at; have h_ := Pt.atE HPa5.out 0 (by decide); have x0 : w5.cell? ada = some (.int .i64 1) := h_.c0; have x1 : w5.cell? ⟨ada.block, ada.off + 1, none⟩ = some (.int .i64 5) := h_.c1; have x2 : w5.cell? ⟨ada.block, ada.off + 2, none⟩ = some (.int .i64 0) := h_.c2; have x3 : w5.cell? ⟨ada.block, ada.off + 3, none⟩ = some (.bool true) := h_.c3; have x4 : w5.cell? ⟨ada.block, ada.off + 4, none⟩ = some (.int .i64 2) := h_.c4; have x5 : w5.cell? ⟨ada.block, ada.off + 5, none⟩ = some (.string ⟨#[97, 98, 99]⟩) := h_.c5; clear h_; clear hp hn hk) | (go_at_call 34; (with_reducible refine (rhandle_calls w2.heap.size gr rA1 1 5 0 true 2 ⟨#[97, 98, 99]⟩ 111 w5 HN5.out.rcv HN5.out.bw (by decide)).mono ?_); rintro e w6 hp; rw [hA2] at hp; obtain ⟨v6, rfl, hv, hn, hk⟩ := Net.rcall HN5.out hp; have HN6 := Aside0.mk (show Net w ws w2.heap.size gs gr sA2 rA2 w6 from hn); have HPa6 := Aside0.mk (HPa5.out.keep hk); have HPb6 := Aside0.mk (HPb5.out.keep hk); obtain ⟨A6, ev, _⟩ := hv.slice; subst ev; clear hv; clear x0 x1 x2 x3 x4 x5; have h_ := Pt.atE HPa6.out 1 (by decide); have y0 : w6.cell? ⟨ada.block, ada.off + 6, none⟩ = some (.int .i64 1) := h_.c0; have y1 : w6.cell? ⟨ada.block, ada.off + 6 + 1, none⟩ = some (.int .i64 5) := h_.c1; have y2 : w6.cell? ⟨ada.block, ada.off + 6 + 2, none⟩ = some (.int .i64 1) := h_.c2; have y3 : w6.cell? ⟨ada.block, ada.off + 6 + 3, none⟩ = some (.bool true) := h_.c3; have y4 : w6.cell? ⟨ada.block, ada.off + 6 + 4, none⟩ = some (.int .i64 2) := h_.c4; have y5 : w6.cell? ⟨ada.block, ada.off + 6 + 5, none⟩ = some (.string ⟨#[100, 101, 102]⟩) := h_.c5; clear h_; clear hp hn hk) | (go_at_call 34; (with_reducible refine (rhandle_calls w2.heap.size gr rA2 1 5 1 true 2 ⟨#[100, 101, 102]⟩ 112 w6 HN6.out.rcv HN6.out.bw (by decide)).mono ?_); rintro e w7 hp; rw [hA3] at hp; obtain ⟨v7, rfl, hv, hn, hk⟩ := Net.rcall HN6.out hp; have HN7 := Aside0.mk (show Net w ws w2.heap.size gs gr sA2 rA3 w7 from hn); have HPa7 := Aside0.mk (HPa6.out.keep hk); have HPb7 := Aside0.mk (HPb6.out.keep hk); obtain ⟨A7, ev, _⟩ := hv.slice; subst ev; have HPd7 := Aside0.mk (show Pt w6.heap.size w7 (.slice A7 1 1) [ackA 1] from hv); clear hv; obtain ⟨add, rfl⟩ := HPd7.out.head_at; clear y0 y1 y2 y3 y4 y5; have h_ := Pt.atE HPb7.out 0 (by decide); have x0 : w7.cell? adb = some (.int .i64 2) := h_.c0; have x1 : w7.cell? ⟨adb.block, adb.off + 1, none⟩ = some (.int .i64 5) := h_.c1; have x2 : w7.cell? ⟨adb.block, adb.off + 2, none⟩ = some (.int .i64 (-1)) := h_.c2; have x3 : w7.cell? ⟨adb.block, adb.off + 3, none⟩ = some (.bool false) := h_.c3; have x4 : w7.cell? ⟨adb.block, adb.off + 4, none⟩ = some (.int .i64 0) := h_.c4; have x5 : w7.cell? ⟨adb.block, adb.off + 5, none⟩ = some (.string ⟨#[]⟩) := h_.c5; clear h_; have h_ := Pt.atE HPd7.out 0 (by decide); have y0 : w7.cell? add = some (.int .i64 2) := h_.c0; have y1 : w7.cell? ⟨add.block, add.off + 1, none⟩ = some (.int .i64 5) := h_.c1; have y2 : w7.cell? ⟨add.block, add.off + 2, none⟩ = some (.int .i64 1) := h_.c2; have y3 : w7.cell? ⟨add.block, add.off + 3, none⟩ = some (.bool false) := h_.c3; have y4 : w7.cell? ⟨add.block, add.off + 4, none⟩ = some (.int .i64 0) := h_.c4; have y5 : w7.cell? ⟨add.block, add.off + 5, none⟩ = some (.string ⟨#[]⟩) := h_.c5; clear h_; clear hp hn hk) | (go_at_call 26; (with_reducible refine (handleP_calls gs sA2 2 5 1 false 0 ⟨#[]⟩ 113 ws w7 HN7.out.snd HN7.out.sb okA2).mono ?_); rintro e w8 hp; rw [shA] at hp; obtain ⟨v8, rfl, hv, hn, hk⟩ := Net.scall HN7.out hp; have HN8 := Aside0.mk (show Net w ws w2.heap.size gs gr sA3 rA3 w8 from hn); have HPa8 := Aside0.mk (HPa7.out.keep hk); have HPd8 := Aside0.mk (HPd7.out.keep hk); obtain ⟨A8, ev, _⟩ := hv.slice; subst ev; have HPh8 := Aside0.mk (show Pt w7.heap.size w8 (.slice A8 1 1) [P2] from hv); clear hv; obtain ⟨adh, rfl⟩ := HPh8.out.head_at; clear x0 x1 x2 x3 x4 x5 y0 y1 y2 y3 y4 y5; have h_ := Pt.atE HPh8.out 0 (by decide); have x0 : w8.cell? adh = some (.int .i64 1) := h_.c0; have x1 : w8.cell? ⟨adh.block, adh.off + 1, none⟩ = some (.int .i64 5) := h_.c1; have x2 : w8.cell? ⟨adh.block, adh.off + 2, none⟩ = some (.int .i64 2) := h_.c2; have x3 : w8.cell? ⟨adh.block, adh.off + 3, none⟩ = some (.bool false) := h_.c3; have x4 : w8.cell? ⟨adh.block, adh.off + 4, none⟩ = some (.int .i64 2) := h_.c4; have x5 : w8.cell? ⟨adh.block, adh.off + 5, none⟩ = some (.string ⟨#[103]⟩) := h_.c5; clear h_; clear hp hn hk) | (go_at_call 34; (with_reducible refine (rhandle_calls w2.heap.size gr rA3 1 5 2 false 2 ⟨#[103]⟩ 114 w8 HN8.out.rcv HN8.out.bw (by decide)).mono ?_); rintro e w9 hp; rw [hA4] at hp; obtain ⟨v9, rfl, hv, hn, hk⟩ := Net.rcall HN8.out hp; have HN9 := Aside0.mk (show Net w ws w2.heap.size gs gr sA3 rA4 w9 from hn); have HPa9 := Aside0.mk (HPa8.out.keep hk); have HPh9 := Aside0.mk (HPh8.out.keep hk); obtain ⟨A9, ev, _⟩ := hv.slice; subst ev; clear hv; clear x0 x1 x2 x3 x4 x5; have h_ := Pt.atE HPa9.out 0 (by decide); have x0 : w9.cell? ada = some (.int .i64 1) := h_.c0; have x1 : w9.cell? ⟨ada.block, ada.off + 1, none⟩ = some (.int .i64 5) := h_.c1; have x2 : w9.cell? ⟨ada.block, ada.off + 2, none⟩ = some (.int .i64 0) := h_.c2; have x3 : w9.cell? ⟨ada.block, ada.off + 3, none⟩ = some (.bool true) := h_.c3; have x4 : w9.cell? ⟨ada.block, ada.off + 4, none⟩ = some (.int .i64 2) := h_.c4; have x5 : w9.cell? ⟨ada.block, ada.off + 5, none⟩ = some (.string ⟨#[97, 98, 99]⟩) := h_.c5; clear h_; clear hp hn hk) | (go_at_call 36; (with_reducible refine (rmessage_calls w2.heap.size gr rA4 w9 HN9.out.rcv).mono ?_); rintro e wm ⟨he, rfl⟩; rw [mA, show (rA4.state == 1) = true from rfl] at he; subst he) | (go_at_call 13; (with_reducible refine (segment_Encode.calls 1 5 0 true 2 ⟨#[97, 98, 99]⟩ encS 0 wm (Glob.below HG.out HN9.out.base) encA).mono ?_); rintro e w10 ⟨rfl, hb⟩; have HN10 := Aside0.mk (HN9.out.below hb); have HPa10 := Aside0.mk (HPa9.out.keep (Keep23.of_below hb)); have HPh10 := Aside0.mk (HPh9.out.keep (Keep23.of_below hb)); clear hb; clear x0 x1 x2 x3 x4 x5) | (go_at_call 14; (with_reducible refine (segment_Decode.calls encS 1 5 0 true 2 ⟨#[97, 98, 99]⟩ 0 w10 (Glob.below HG.out HN10.out.base) decA_).mono ?_); rintro e w11 ⟨rfl, hb⟩; have HN11 := Aside0.mk (HN10.out.below hb); have HPa11 := Aside0.mk (HPa10.out.keep (Keep23.of_below hb)); have HPh11 := Aside0.mk (HPh10.out.keep (Keep23.of_below hb)); clear hb))
  have HN12 := Aside0.mk (HN11.out.below (below_alloc (Below.refl _ _) (.cells #[.int .i64 1, .int .i64 5, .int .i64 0, .bool true, .int .i64 2, .string ⟨#[97, 98, 99]⟩] 23)))
  have HPa12 := Aside0.mk (HPa11.out.keep (Keep23.of_below (below_alloc (Below.refl _ _) (.cells #[.int .i64 1, .int .i64 5, .int .i64 0, .bool true, .int .i64 2, .string ⟨#[97, 98, 99]⟩] 23))))
  have HX12 := Aside0.mk (blk_new w11 (.cells #[.int .i64 1, .int .i64 5, .int .i64 0, .bool true, .int .i64 2, .string ⟨#[97, 98, 99]⟩] 23))
  clear HN11 HPa11
  generalize hgx : w11.heap.size = gx at HX12 ⊢
  clear hgx
  generalize w11.alloc (.cells #[.int .i64 1, .int .i64 5, .int .i64 0, .bool true, .int .i64 2, .string ⟨#[97, 98, 99]⟩] 23) = w12 at HN12 HPa12 HX12 ⊢
  have HN13 := Aside0.mk (HN12.out.below (below_drew1 (Below.refl _ _)))
  have HPa13 := Aside0.mk (HPa12.out.keep (Keep23.of_below (below_drew1 (Below.refl _ _))))
  have HX13 := Aside0.mk (blk_drew HX12.out)
  clear HN12 HPa12 HX12
  have hu23 := Tryd.underlying23
  clear HB1 HS2 HW2 HB2 HN3 HV2 HPa3 HN4 HPa4 HPb4 HN5 HPa5 HPb5 HPc5 HN6 HPa6 HPb6 HN7 HPa7 HPb7 HPd7 HN8 HPa8 HPd8 HPh8 HN9 HPa9 HPh9 HN10 HPa10 HPh10 HPh11
  refine start_ (n := 47) (S := fun w' => Row w' ada [.int .i64 1, .int .i64 5, .int .i64 0, .bool true, .int .i64 2, .string ⟨#[97, 98, 99]⟩] ∧ Row w' ⟨gx, 0, none⟩ [.int .i64 1, .int .i64 5, .int .i64 0, .bool true, .int .i64 2, .string ⟨#[97, 98, 99]⟩]) (ds := []) #[Yn, Yn, Yn, Yn, Yn, Yn, Yn, Yn, Yn, Yn, Yn, Yn, Yn, Yn, Yn, Yn, Yn, Yn, Yn, Yn, Yn, Yn, Yn, Yn, Yn, Yn, Yn, Yn, Yn, Yn, Yn, Yn, Yn, Yn, Yn, Yn, Yn, Yn, Yn, Yn, Yn, Yn, Yn, Yn, Yn, Yn, Yn] (by kernel_rfl) rfl rfl ⟨(Pt.row (x := P0) (xs := [P1]) HPa13.out (by decide)), (row_blk HX13.out)⟩ (fun hHeld => ?_)
  refine pure_ (i := 0) (N := some 146) (v := ?_) (a' := ?_) #[Y, Yn, Yn, Yn, Yn, Yn, Yn, Yn, Yn, Yn, Yn, Yn, Yn, Yn, Yn, Yn, Yn, Yn, Yn, Yn, Yn, Yn, Yn, Yn, Yn, Yn, Yn, Yn, Yn, Yn, Yn, Yn, Yn, Yn, Yn, Yn, Yn, Yn, Yn, Yn, Yn, Yn, Yn, Yn, Yn, Yn, Yn] rfl rfl (by kernel_rfl) (fun _ _ _ h => h) (Or.inl ⟨by rfl, ?_⟩) ?_ ?_
  rotate_left
  · intro w'
    go_simp
    with_reducible rfl
  rotate_left
  · simp only [Act.put, List.setIfInBounds_toArray, List.set_cons_zero, List.set_cons_succ, i64_w, i32_w]
    rfl
  refine pure_ (i := 1) (N := some 147) (v := ?_) (a' := ?_) #[Y, Y, Yn, Yn, Yn, Yn, Yn, Yn, Yn, Yn, Yn, Yn, Yn, Yn, Yn, Yn, Yn, Yn, Yn, Yn, Yn, Yn, Yn, Yn, Yn, Yn, Yn, Yn, Yn, Yn, Yn, Yn, Yn, Yn, Yn, Yn, Yn, Yn, Yn, Yn, Yn, Yn, Yn, Yn, Yn, Yn, Yn] rfl rfl (by kernel_rfl) (fun _ _ _ h => h) (Or.inl ⟨by rfl, ?_⟩) ?_ ?_
  rotate_left
  · intro w'
    go_simp
    with_reducible rfl
  rotate_left
  · simp only [Act.put, List.setIfInBounds_toArray, List.set_cons_zero, List.set_cons_succ, i64_w, i32_w]
    rfl
  refine pure_ (i := 2) (N := some 148) (v := ?_) (a' := ?_) #[Y, Y, Y, Yn, Yn, Yn, Yn, Yn, Yn, Yn, Yn, Yn, Yn, Yn, Yn, Yn, Yn, Yn, Yn, Yn, Yn, Yn, Yn, Yn, Yn, Yn, Yn, Yn, Yn, Yn, Yn, Yn, Yn, Yn, Yn, Yn, Yn, Yn, Yn, Yn, Yn, Yn, Yn, Yn, Yn, Yn, Yn] rfl rfl (by kernel_rfl) (fun _ _ _ h => h) (Or.inl ⟨by rfl, ?_⟩) ?_ ?_
  rotate_left
  · intro w'
    go_simp
    with_reducible rfl
  rotate_left
  · simp only [Act.put, List.setIfInBounds_toArray, List.set_cons_zero, List.set_cons_succ, i64_w, i32_w]
    rfl
  refine pure_ (i := 3) (N := some 149) (v := ?_) (a' := ?_) #[Y, Y, Y, Y, Yn, Yn, Yn, Yn, Yn, Yn, Yn, Yn, Yn, Yn, Yn, Yn, Yn, Yn, Yn, Yn, Yn, Yn, Yn, Yn, Yn, Yn, Yn, Yn, Yn, Yn, Yn, Yn, Yn, Yn, Yn, Yn, Yn, Yn, Yn, Yn, Yn, Yn, Yn, Yn, Yn, Yn, Yn] rfl rfl (by kernel_rfl) (fun _ _ _ h => h) (Or.inl ⟨by rfl, ?_⟩) ?_ ?_
  rotate_left
  · intro w'
    go_simp
    with_reducible rfl
  rotate_left
  · simp only [Act.put, List.setIfInBounds_toArray, List.set_cons_zero, List.set_cons_succ, i64_w, i32_w]
    rfl
  refine pure_ (i := 4) (N := some 150) (v := ?_) (a' := ?_) #[Y, Y, Y, Y, Y, Yn, Yn, Yn, Yn, Yn, Yn, Yn, Yn, Yn, Yn, Yn, Yn, Yn, Yn, Yn, Yn, Yn, Yn, Yn, Yn, Yn, Yn, Yn, Yn, Yn, Yn, Yn, Yn, Yn, Yn, Yn, Yn, Yn, Yn, Yn, Yn, Yn, Yn, Yn, Yn, Yn, Yn] rfl rfl (by kernel_rfl) (fun _ _ _ h => h) (Or.inl ⟨by rfl, ?_⟩) ?_ ?_
  rotate_left
  · intro w'
    go_simp
    with_reducible rfl
  rotate_left
  · simp only [Act.put, List.setIfInBounds_toArray, List.set_cons_zero, List.set_cons_succ, i64_w, i32_w]
    rfl
  refine pure_ (i := 5) (N := some 151) (v := ?_) (a' := ?_) #[Y, Y, Y, Y, Y, Y, Yn, Yn, Yn, Yn, Yn, Yn, Yn, Yn, Yn, Yn, Yn, Yn, Yn, Yn, Yn, Yn, Yn, Yn, Yn, Yn, Yn, Yn, Yn, Yn, Yn, Yn, Yn, Yn, Yn, Yn, Yn, Yn, Yn, Yn, Yn, Yn, Yn, Yn, Yn, Yn, Yn] rfl rfl (by kernel_rfl) (fun _ _ _ h => h) (Or.inl ⟨by rfl, ?_⟩) ?_ ?_
  rotate_left
  · intro w'
    go_simp
    with_reducible rfl
  rotate_left
  · simp only [Act.put, List.setIfInBounds_toArray, List.set_cons_zero, List.set_cons_succ, i64_w, i32_w]
    rfl
  refine pure_ (i := 6) (N := some 152) (v := ?_) (a' := ?_) #[Y, Y, Y, Y, Y, Y, Y, Yn, Yn, Yn, Yn, Yn, Yn, Yn, Yn, Yn, Yn, Yn, Yn, Yn, Yn, Yn, Yn, Yn, Yn, Yn, Yn, Yn, Yn, Yn, Yn, Yn, Yn, Yn, Yn, Yn, Yn, Yn, Yn, Yn, Yn, Yn, Yn, Yn, Yn, Yn, Yn] rfl rfl (by kernel_rfl) (fun _ _ _ h => h) (Or.inl ⟨by rfl, ?_⟩) ?_ ?_
  rotate_left
  · intro w'
    go_simp
    with_reducible rfl
  rotate_left
  · simp only [Act.put, List.setIfInBounds_toArray, List.set_cons_zero, List.set_cons_succ, i64_w, i32_w]
    rfl
  refine one_ (i := 7) (N := some 153) #[Y, Y, Y, Y, Y, Y, Y, Y, Yn, Yn, Yn, Yn, Yn, Yn, Yn, Yn, Yn, Yn, Yn, Yn, Yn, Yn, Yn, Yn, Yn, Yn, Yn, Yn, Yn, Yn, Yn, Yn, Yn, Yn, Yn, Yn, Yn, Yn, Yn, Yn, Yn, Yn, Yn, Yn, Yn, Yn, Yn] rfl rfl (by kernel_rfl) (by decide) (fun K hK => ?_)
  refine goes_ Tryd.func38 (by kernel_rfl) rfl #[.pointer (some ⟨gr, 0, none⟩)] (by rfl) rfl rfl (by simp only [List.map_toArray, List.map_cons, List.map_nil]; rfl) ?_
  with_reducible refine (stA _ gr _ HN13.out.rcv).mono ?_
  rintro e w14 ⟨rfl, rfl⟩
  refine ⟨_, rfl, ?_⟩
  refine hK.out _ _ ⟨hHeld.1, hHeld.2⟩ (fun hHeld => ?_)
  clear hK K
  refine norm_ (a' := ?_) ?_ ?_
  rotate_left
  · show Act.put _ (some 153) _ = _
    simp only [Act.put, List.setIfInBounds_toArray, List.set_cons_zero, List.set_cons_succ, i64_w, i32_w]
    rfl
  refine pure_ (i := 8) (N := some 154) (v := ?_) (a' := ?_) #[Y, Y, Y, Y, Y, Y, Y, Y, Y, Yn, Yn, Yn, Yn, Yn, Yn, Yn, Yn, Yn, Yn, Yn, Yn, Yn, Yn, Yn, Yn, Yn, Yn, Yn, Yn, Yn, Yn, Yn, Yn, Yn, Yn, Yn, Yn, Yn, Yn, Yn, Yn, Yn, Yn, Yn, Yn, Yn, Yn] rfl rfl (by kernel_rfl) (fun _ _ _ h => h) (Or.inl ⟨by rfl, ?_⟩) ?_ ?_
  rotate_left
  · intro w'
    go_simp
    with_reducible rfl
  rotate_left
  · simp only [Act.put, List.setIfInBounds_toArray, List.set_cons_zero, List.set_cons_succ, i64_w, i32_w]
    rfl
  refine pure_ (i := 9) (N := some 155) (v := ?_) (a' := ?_) #[Y, Y, Y, Y, Y, Y, Y, Y, Y, Y, Yn, Yn, Yn, Yn, Yn, Yn, Yn, Yn, Yn, Yn, Yn, Yn, Yn, Yn, Yn, Yn, Yn, Yn, Yn, Yn, Yn, Yn, Yn, Yn, Yn, Yn, Yn, Yn, Yn, Yn, Yn, Yn, Yn, Yn, Yn, Yn, Yn] rfl rfl (by kernel_rfl) (fun _ _ _ h => h) (Or.inl ⟨by rfl, ?_⟩) ?_ ?_
  rotate_left
  · intro w'
    go_simp
    with_reducible rfl
  rotate_left
  · simp only [Act.put, List.setIfInBounds_toArray, List.set_cons_zero, List.set_cons_succ, i64_w, i32_w]
    rfl
  refine pure_ (i := 10) (N := some 156) (v := ?_) (a' := ?_) #[Y, Y, Y, Y, Y, Y, Y, Y, Y, Y, Y, Yn, Yn, Yn, Yn, Yn, Yn, Yn, Yn, Yn, Yn, Yn, Yn, Yn, Yn, Yn, Yn, Yn, Yn, Yn, Yn, Yn, Yn, Yn, Yn, Yn, Yn, Yn, Yn, Yn, Yn, Yn, Yn, Yn, Yn, Yn, Yn] rfl rfl (by kernel_rfl) (fun _ _ _ h => h) (Or.inl ⟨by rfl, ?_⟩) ?_ ?_
  rotate_left
  · intro w'
    go_simp
    with_reducible rfl
  rotate_left
  · simp only [Act.put, List.setIfInBounds_toArray, List.set_cons_zero, List.set_cons_succ, i64_w, i32_w]
    rfl
  refine pure_ (i := 11) (N := some 157) (v := ?_) (a' := ?_) #[Y, Y, Y, Y, Y, Y, Y, Y, Y, Y, Y, Y, Yn, Yn, Yn, Yn, Yn, Yn, Yn, Yn, Yn, Yn, Yn, Yn, Yn, Yn, Yn, Yn, Yn, Yn, Yn, Yn, Yn, Yn, Yn, Yn, Yn, Yn, Yn, Yn, Yn, Yn, Yn, Yn, Yn, Yn, Yn] rfl rfl (by kernel_rfl) (fun _ _ _ h => h) (Or.inl ⟨by rfl, ?_⟩) ?_ ?_
  rotate_left
  · intro w'
    go_simp
    with_reducible rfl
  rotate_left
  · simp only [Act.put, List.setIfInBounds_toArray, List.set_cons_zero, List.set_cons_succ, i64_w, i32_w]
    rfl
  refine one_ (i := 12) (N := some 158) #[Y, Y, Y, Y, Y, Y, Y, Y, Y, Y, Y, Y, Y, Yn, Yn, Yn, Yn, Yn, Yn, Yn, Yn, Yn, Yn, Yn, Yn, Yn, Yn, Yn, Yn, Yn, Yn, Yn, Yn, Yn, Yn, Yn, Yn, Yn, Yn, Yn, Yn, Yn, Yn, Yn, Yn, Yn, Yn] rfl rfl (by kernel_rfl) (by decide) (fun K hK => ?_)
  refine goes_ Tryd.func29 (by kernel_rfl) rfl #[.pointer (some ⟨gs, 0, none⟩)] (by rfl) rfl rfl (by simp only [List.map_toArray, List.map_cons, List.map_nil]; rfl) ?_
  with_reducible refine (ssA gs ws _ HN13.out.snd).mono ?_
  rintro e w15 ⟨rfl, rfl⟩
  refine ⟨_, rfl, ?_⟩
  refine hK.out _ _ ⟨hHeld.1, hHeld.2⟩ (fun hHeld => ?_)
  clear hK K
  refine norm_ (a' := ?_) ?_ ?_
  rotate_left
  · show Act.put _ (some 158) _ = _
    simp only [Act.put, List.setIfInBounds_toArray, List.set_cons_zero, List.set_cons_succ, i64_w, i32_w]
    rfl
  refine pure_ (i := 13) (N := some 159) (v := ?_) (a' := ?_) #[Y, Y, Y, Y, Y, Y, Y, Y, Y, Y, Y, Y, Y, Y, Yn, Yn, Yn, Yn, Yn, Yn, Yn, Yn, Yn, Yn, Yn, Yn, Yn, Yn, Yn, Yn, Yn, Yn, Yn, Yn, Yn, Yn, Yn, Yn, Yn, Yn, Yn, Yn, Yn, Yn, Yn, Yn, Yn] rfl rfl (by kernel_rfl) (fun _ _ _ h => h) (Or.inl ⟨by rfl, ?_⟩) ?_ ?_
  rotate_left
  · intro w'
    go_simp
    with_reducible rfl
  rotate_left
  · simp only [Act.put, List.setIfInBounds_toArray, List.set_cons_zero, List.set_cons_succ, i64_w, i32_w]
    rfl
  refine pure_ (i := 14) (N := some 160) (v := ?_) (a' := ?_) #[Y, Y, Y, Y, Y, Y, Y, Y, Y, Y, Y, Y, Y, Y, Y, Yn, Yn, Yn, Yn, Yn, Yn, Yn, Yn, Yn, Yn, Yn, Yn, Yn, Yn, Yn, Yn, Yn, Yn, Yn, Yn, Yn, Yn, Yn, Yn, Yn, Yn, Yn, Yn, Yn, Yn, Yn, Yn] rfl rfl (by kernel_rfl) (fun _ _ _ h => h) (Or.inl ⟨by rfl, ?_⟩) ?_ ?_
  rotate_left
  · intro w'
    go_simp
    with_reducible rfl
  rotate_left
  · simp only [Act.put, List.setIfInBounds_toArray, List.set_cons_zero, List.set_cons_succ, i64_w, i32_w]
    rfl
  refine pure_ (i := 15) (N := some 161) (v := ?_) (a' := ?_) #[Y, Y, Y, Y, Y, Y, Y, Y, Y, Y, Y, Y, Y, Y, Y, Y, Yn, Yn, Yn, Yn, Yn, Yn, Yn, Yn, Yn, Yn, Yn, Yn, Yn, Yn, Yn, Yn, Yn, Yn, Yn, Yn, Yn, Yn, Yn, Yn, Yn, Yn, Yn, Yn, Yn, Yn, Yn] rfl rfl (by kernel_rfl) (fun _ _ _ h => h) (Or.inl ⟨by rfl, ?_⟩) ?_ ?_
  rotate_left
  · intro w'
    go_simp
    with_reducible rfl
  rotate_left
  · simp only [Act.put, List.setIfInBounds_toArray, List.set_cons_zero, List.set_cons_succ, i64_w, i32_w]
    rfl
  refine pure_ (i := 16) (N := some 162) (v := ?_) (a' := ?_) #[Y, Y, Y, Y, Y, Y, Y, Y, Y, Y, Y, Y, Y, Y, Y, Y, Y, Yn, Yn, Yn, Yn, Yn, Yn, Yn, Yn, Yn, Yn, Yn, Yn, Yn, Yn, Yn, Yn, Yn, Yn, Yn, Yn, Yn, Yn, Yn, Yn, Yn, Yn, Yn, Yn, Yn, Yn] rfl rfl (by kernel_rfl) (fun _ _ _ h => h) (Or.inl ⟨by rfl, ?_⟩) ?_ ?_
  rotate_left
  · intro w'
    go_simp
    with_reducible rfl
  rotate_left
  · simp only [Act.put, List.setIfInBounds_toArray, List.set_cons_zero, List.set_cons_succ, i64_w, i32_w]
    rfl
  refine pure_ (i := 17) (N := some 163) (v := ?_) (a' := ?_) #[Y, Y, Y, Y, Y, Y, Y, Y, Y, Y, Y, Y, Y, Y, Y, Y, Y, Y, Yn, Yn, Yn, Yn, Yn, Yn, Yn, Yn, Yn, Yn, Yn, Yn, Yn, Yn, Yn, Yn, Yn, Yn, Yn, Yn, Yn, Yn, Yn, Yn, Yn, Yn, Yn, Yn, Yn] rfl rfl (by kernel_rfl) (fun _ _ _ h => h) (Or.inl ⟨by rfl, ?_⟩) ?_ ?_
  rotate_left
  · intro w'
    go_simp
    with_reducible rfl
  rotate_left
  · simp only [Act.put, List.setIfInBounds_toArray, List.set_cons_zero, List.set_cons_succ, i64_w, i32_w]
    rfl
  refine pure_ (i := 18) (N := some 164) (v := ?_) (a' := ?_) #[Y, Y, Y, Y, Y, Y, Y, Y, Y, Y, Y, Y, Y, Y, Y, Y, Y, Y, Y, Yn, Yn, Yn, Yn, Yn, Yn, Yn, Yn, Yn, Yn, Yn, Yn, Yn, Yn, Yn, Yn, Yn, Yn, Yn, Yn, Yn, Yn, Yn, Yn, Yn, Yn, Yn, Yn] rfl rfl (by kernel_rfl) (fun _ _ _ h => h) (Or.inl ⟨by rfl, ?_⟩) ?_ ?_
  rotate_left
  · intro w'
    go_simp
    with_reducible rfl
  rotate_left
  · simp only [Act.put, List.setIfInBounds_toArray, List.set_cons_zero, List.set_cons_succ, i64_w, i32_w]
    rfl
  refine pure_ (i := 19) (N := some 165) (v := ?_) (a' := ?_) #[Y, Y, Y, Y, Y, Y, Y, Y, Y, Y, Y, Y, Y, Y, Y, Y, Y, Y, Y, Y, Yn, Yn, Yn, Yn, Yn, Yn, Yn, Yn, Yn, Yn, Yn, Yn, Yn, Yn, Yn, Yn, Yn, Yn, Yn, Yn, Yn, Yn, Yn, Yn, Yn, Yn, Yn] rfl rfl (by kernel_rfl) (fun _ _ _ h => h) (Or.inl ⟨by rfl, ?_⟩) ?_ ?_
  rotate_left
  · intro w'
    go_simp
    with_reducible rfl
  rotate_left
  · simp only [Act.put, List.setIfInBounds_toArray, List.set_cons_zero, List.set_cons_succ, i64_w, i32_w]
    rfl
  refine pure_ (i := 20) (N := some 166) (v := ?_) (a' := ?_) #[Y, Y, Y, Y, Y, Y, Y, Y, Y, Y, Y, Y, Y, Y, Y, Y, Y, Y, Y, Y, Y, Yn, Yn, Yn, Yn, Yn, Yn, Yn, Yn, Yn, Yn, Yn, Yn, Yn, Yn, Yn, Yn, Yn, Yn, Yn, Yn, Yn, Yn, Yn, Yn, Yn, Yn] rfl rfl (by kernel_rfl) (fun _ _ _ h => h) (Or.inl ⟨by rfl, ?_⟩) ?_ ?_
  rotate_left
  · intro w'
    go_simp
    with_reducible rfl
  rotate_left
  · simp only [Act.put, List.setIfInBounds_toArray, List.set_cons_zero, List.set_cons_succ, i64_w, i32_w]
    rfl
  refine pure_ (i := 21) (N := some 167) (v := ?_) (a' := ?_) #[Y, Y, Y, Y, Y, Y, Y, Y, Y, Y, Y, Y, Y, Y, Y, Y, Y, Y, Y, Y, Y, Y, Yn, Yn, Yn, Yn, Yn, Yn, Yn, Yn, Yn, Yn, Yn, Yn, Yn, Yn, Yn, Yn, Yn, Yn, Yn, Yn, Yn, Yn, Yn, Yn, Yn] rfl rfl (by kernel_rfl) (fun _ _ _ h => h) (Or.inl ⟨by rfl, ?_⟩) ?_ ?_
  rotate_left
  · intro w'
    go_simp
    with_reducible rfl
  rotate_left
  · simp only [Act.put, List.setIfInBounds_toArray, List.set_cons_zero, List.set_cons_succ, i64_w, i32_w]
    rfl
  refine pure_ (i := 22) (N := some 168) (v := ?_) (a' := ?_) #[Y, Y, Y, Y, Y, Y, Y, Y, Y, Y, Y, Y, Y, Y, Y, Y, Y, Y, Y, Y, Y, Y, Y, Yn, Yn, Yn, Yn, Yn, Yn, Yn, Yn, Yn, Yn, Yn, Yn, Yn, Yn, Yn, Yn, Yn, Yn, Yn, Yn, Yn, Yn, Yn, Yn] rfl rfl (by kernel_rfl) (fun _ _ _ h => h) (Or.inl ⟨by rfl, ?_⟩) ?_ ?_
  rotate_left
  · intro w'
    go_simp
    with_reducible rfl
  rotate_left
  · simp only [Act.put, List.setIfInBounds_toArray, List.set_cons_zero, List.set_cons_succ, i64_w, i32_w]
    rfl
  refine pure_ (i := 23) (N := some 169) (v := ?_) (a' := ?_) #[Y, Y, Y, Y, Y, Y, Y, Y, Y, Y, Y, Y, Y, Y, Y, Y, Y, Y, Y, Y, Y, Y, Y, Y, Yn, Yn, Yn, Yn, Yn, Yn, Yn, Yn, Yn, Yn, Yn, Yn, Yn, Yn, Yn, Yn, Yn, Yn, Yn, Yn, Yn, Yn, Yn] rfl rfl (by kernel_rfl) (fun _ _ _ h => h) (Or.inl ⟨by rfl, ?_⟩) ?_ ?_
  rotate_left
  · intro w'
    go_simp
    with_reducible rfl
  rotate_left
  · simp only [Act.put, List.setIfInBounds_toArray, List.set_cons_zero, List.set_cons_succ, i64_w, i32_w]
    rfl
  refine pure_ (i := 25) (N := some 171) (v := ?_) (a' := ?_) #[Y, Y, Y, Y, Y, Y, Y, Y, Y, Y, Y, Y, Y, Y, Y, Y, Y, Y, Y, Y, Y, Y, Y, Y, Yn, Y, Yn, Yn, Yn, Yn, Yn, Yn, Yn, Yn, Yn, Yn, Yn, Yn, Yn, Yn, Yn, Yn, Yn, Yn, Yn, Yn, Yn] rfl rfl (by kernel_rfl) (fun _ _ _ h => h) (Or.inl ⟨by rfl, ?_⟩) ?_ ?_
  rotate_left
  · intro w'
    go_simp
    with_reducible rfl
  rotate_left
  · simp only [Act.put, List.setIfInBounds_toArray, List.set_cons_zero, List.set_cons_succ, i64_w, i32_w]
    rfl
  refine pure_ (i := 26) (N := some 172) (v := ?_) (a' := ?_) #[Y, Y, Y, Y, Y, Y, Y, Y, Y, Y, Y, Y, Y, Y, Y, Y, Y, Y, Y, Y, Y, Y, Y, Y, Yn, Y, Y, Yn, Yn, Yn, Yn, Yn, Yn, Yn, Yn, Yn, Yn, Yn, Yn, Yn, Yn, Yn, Yn, Yn, Yn, Yn, Yn] rfl rfl (by kernel_rfl) (fun _ _ _ h => h) (Or.inl ⟨by rfl, ?_⟩) ?_ ?_
  rotate_left
  · intro w'
    go_simp
    with_reducible rfl
  rotate_left
  · simp only [Act.put, List.setIfInBounds_toArray, List.set_cons_zero, List.set_cons_succ, i64_w, i32_w]
    rfl
  refine take_ (i := 24) (N := some 170) (v := .agg #[.int .i64 1, .int .i64 5, .int .i64 0, .bool true, .int .i64 2, .string ⟨#[97, 98, 99]⟩]) (a' := ?_) #[Y, Y, Y, Y, Y, Y, Y, Y, Y, Y, Y, Y, Y, Y, Y, Y, Y, Y, Y, Y, Y, Y, Y, Y, Y, Y, Y, Yn, Yn, Yn, Yn, Yn, Yn, Yn, Yn, Yn, Yn, Yn, Yn, Yn, Yn, Yn, Yn, Yn, Yn, Yn, Yn] rfl rfl (by kernel_rfl) (fun _ _ _ h => h) (yieldsIf_load_at (by rfl) 23 (.tmp 16) rfl ⟨gx, 0, none⟩ rfl [.int .i64 1, .int .i64 5, .int .i64 0, .bool true, .int .i64 2, .string ⟨#[97, 98, 99]⟩] _ (fun _ h => h.2) Tryd.underlying23 rfl (by kernel_rfl)) hHeld ?_ ?_
  rotate_left
  · simp only [Act.put, List.setIfInBounds_toArray, List.set_cons_zero, List.set_cons_succ, i64_w, i32_w]
    rfl
  refine take_ (i := 27) (N := some 173) (v := .agg #[.int .i64 1, .int .i64 5, .int .i64 0, .bool true, .int .i64 2, .string ⟨#[97, 98, 99]⟩]) (a' := ?_) #[Y, Y, Y, Y, Y, Y, Y, Y, Y, Y, Y, Y, Y, Y, Y, Y, Y, Y, Y, Y, Y, Y, Y, Y, Y, Y, Y, Y, Yn, Yn, Yn, Yn, Yn, Yn, Yn, Yn, Yn, Yn, Yn, Yn, Yn, Yn, Yn, Yn, Yn, Yn, Yn] rfl rfl (by kernel_rfl) (fun _ _ _ h => h) (yieldsIf_load_at (by rfl) 23 (.tmp 172) rfl ada rfl [.int .i64 1, .int .i64 5, .int .i64 0, .bool true, .int .i64 2, .string ⟨#[97, 98, 99]⟩] _ (fun _ h => h.1) Tryd.underlying23 rfl (by kernel_rfl)) hHeld ?_ ?_
  rotate_left
  · simp only [Act.put, List.setIfInBounds_toArray, List.set_cons_zero, List.set_cons_succ, i64_w, i32_w]
    rfl
  refine pure_ (i := 28) (N := some 174) (v := ?_) (a' := ?_) #[Y, Y, Y, Y, Y, Y, Y, Y, Y, Y, Y, Y, Y, Y, Y, Y, Y, Y, Y, Y, Y, Y, Y, Y, Y, Y, Y, Y, Y, Yn, Yn, Yn, Yn, Yn, Yn, Yn, Yn, Yn, Yn, Yn, Yn, Yn, Yn, Yn, Yn, Yn, Yn] rfl rfl (by kernel_rfl) (fun _ _ _ h => h) (Or.inl ⟨by rfl, ?_⟩) ?_ ?_
  rotate_left
  · intro w'
    go_simp
    with_reducible rfl
  rotate_left
  · simp only [Act.put, List.setIfInBounds_toArray, List.set_cons_zero, List.set_cons_succ, i64_w, i32_w]
    rfl
  refine pure_ (i := 29) (N := some 175) (v := ?_) (a' := ?_) #[Y, Y, Y, Y, Y, Y, Y, Y, Y, Y, Y, Y, Y, Y, Y, Y, Y, Y, Y, Y, Y, Y, Y, Y, Y, Y, Y, Y, Y, Y, Yn, Yn, Yn, Yn, Yn, Yn, Yn, Yn, Yn, Yn, Yn, Yn, Yn, Yn, Yn, Yn, Yn] rfl rfl (by kernel_rfl) (fun _ _ _ h => h) (Or.inl ⟨by rfl, ?_⟩) ?_ ?_
  rotate_left
  · intro w'
    go_simp
    with_reducible rfl
  rotate_left
  · simp only [Act.put, List.setIfInBounds_toArray, List.set_cons_zero, List.set_cons_succ, i64_w, i32_w]
    rfl
  refine pure_ (i := 30) (N := some 176) (v := ?_) (a' := ?_) #[Y, Y, Y, Y, Y, Y, Y, Y, Y, Y, Y, Y, Y, Y, Y, Y, Y, Y, Y, Y, Y, Y, Y, Y, Y, Y, Y, Y, Y, Y, Y, Yn, Yn, Yn, Yn, Yn, Yn, Yn, Yn, Yn, Yn, Yn, Yn, Yn, Yn, Yn, Yn] rfl rfl (by kernel_rfl) (fun _ _ _ h => h) (Or.inl ⟨by rfl, ?_⟩) ?_ ?_
  rotate_left
  · intro w'
    go_simp
    with_reducible rfl
  rotate_left
  · simp only [Act.put, List.setIfInBounds_toArray, List.set_cons_zero, List.set_cons_succ, i64_w, i32_w]
    rfl
  refine take_ (i := 31) (N := some 177) (v := .agg #[.int .i64 1, .int .i64 5, .int .i64 0, .bool true, .int .i64 2, .string ⟨#[97, 98, 99]⟩]) (a' := ?_) #[Y, Y, Y, Y, Y, Y, Y, Y, Y, Y, Y, Y, Y, Y, Y, Y, Y, Y, Y, Y, Y, Y, Y, Y, Y, Y, Y, Y, Y, Y, Y, Y, Yn, Yn, Yn, Yn, Yn, Yn, Yn, Yn, Yn, Yn, Yn, Yn, Yn, Yn, Yn] rfl rfl (by kernel_rfl) (fun _ _ _ h => h) (yieldsIf_load_at (by rfl) 23 (.tmp 16) rfl ⟨gx, 0, none⟩ rfl [.int .i64 1, .int .i64 5, .int .i64 0, .bool true, .int .i64 2, .string ⟨#[97, 98, 99]⟩] _ (fun _ h => h.2) Tryd.underlying23 rfl (by kernel_rfl)) hHeld ?_ ?_
  rotate_left
  · simp only [Act.put, List.setIfInBounds_toArray, List.set_cons_zero, List.set_cons_succ, i64_w, i32_w]
    rfl
  refine one_ (i := 32) (N := some 178) #[Y, Y, Y, Y, Y, Y, Y, Y, Y, Y, Y, Y, Y, Y, Y, Y, Y, Y, Y, Y, Y, Y, Y, Y, Y, Y, Y, Y, Y, Y, Y, Y, Y, Yn, Yn, Yn, Yn, Yn, Yn, Yn, Yn, Yn, Yn, Yn, Yn, Yn, Yn] rfl rfl (by kernel_rfl) (by decide) (fun K hK => ?_)
  refine goes_ Tryd.func16 (by kernel_rfl) rfl #[.agg #[.int .i64 1, .int .i64 5, .int .i64 0, .bool true, .int .i64 2, .string ⟨#[97, 98, 99]⟩]] (by rfl) rfl rfl (by simp only [List.map_toArray, List.map_cons, List.map_nil]; rfl) ?_
  with_reducible refine (segment_Check.calls 40 1 5 0 true 2 ⟨#[97, 98, 99]⟩ 0 _ (Glob.below HG.out HN13.out.base) chkA).mono ?_
  rintro e w16 ⟨rfl, hb_⟩
  refine ⟨_, rfl, ?_⟩
  have HN16 := Aside0.mk (HN13.out.below hb_)
  have HPa16 := Aside0.mk (HPa13.out.keep (Keep23.of_below hb_))
  have HX16 := Aside0.mk (blk_below HX13.out hb_)
  have hb_ := Aside0.mk hb_
  refine hK.out _ _ ⟨hHeld.1.below hb_.out, hHeld.2.below hb_.out⟩ (fun hHeld => ?_)
  clear hK K
  refine norm_ (a' := ?_) ?_ ?_
  rotate_left
  · show Act.put _ (some 178) _ = _
    simp only [Act.put, List.setIfInBounds_toArray, List.set_cons_zero, List.set_cons_succ, i64_w, i32_w]
    rfl
  refine pure_ (i := 33) (N := some 179) (v := ?_) (a' := ?_) #[Y, Y, Y, Y, Y, Y, Y, Y, Y, Y, Y, Y, Y, Y, Y, Y, Y, Y, Y, Y, Y, Y, Y, Y, Y, Y, Y, Y, Y, Y, Y, Y, Y, Y, Yn, Yn, Yn, Yn, Yn, Yn, Yn, Yn, Yn, Yn, Yn, Yn, Yn] rfl rfl (by kernel_rfl) (fun _ _ _ h => h) (Or.inl ⟨by rfl, ?_⟩) ?_ ?_
  rotate_left
  · intro w'
    go_simp
    with_reducible rfl
  rotate_left
  · simp only [Act.put, List.setIfInBounds_toArray, List.set_cons_zero, List.set_cons_succ, i64_w, i32_w]
    rfl
  refine pure_ (i := 34) (N := some 180) (v := ?_) (a' := ?_) #[Y, Y, Y, Y, Y, Y, Y, Y, Y, Y, Y, Y, Y, Y, Y, Y, Y, Y, Y, Y, Y, Y, Y, Y, Y, Y, Y, Y, Y, Y, Y, Y, Y, Y, Y, Yn, Yn, Yn, Yn, Yn, Yn, Yn, Yn, Yn, Yn, Yn, Yn] rfl rfl (by kernel_rfl) (fun _ _ _ h => h) (Or.inl ⟨by rfl, ?_⟩) ?_ ?_
  rotate_left
  · intro w'
    go_simp
    with_reducible rfl
  rotate_left
  · simp only [Act.put, List.setIfInBounds_toArray, List.set_cons_zero, List.set_cons_succ, i64_w, i32_w]
    rfl
  refine pure_ (i := 35) (N := some 181) (v := ?_) (a' := ?_) #[Y, Y, Y, Y, Y, Y, Y, Y, Y, Y, Y, Y, Y, Y, Y, Y, Y, Y, Y, Y, Y, Y, Y, Y, Y, Y, Y, Y, Y, Y, Y, Y, Y, Y, Y, Y, Yn, Yn, Yn, Yn, Yn, Yn, Yn, Yn, Yn, Yn, Yn] rfl rfl (by kernel_rfl) (fun _ _ _ h => h) (Or.inl ⟨by rfl, ?_⟩) ?_ ?_
  rotate_left
  · intro w'
    go_simp
    with_reducible rfl
  rotate_left
  · simp only [Act.put, List.setIfInBounds_toArray, List.set_cons_zero, List.set_cons_succ, i64_w, i32_w]
    rfl
  refine pure_ (i := 36) (N := some 182) (v := ?_) (a' := ?_) #[Y, Y, Y, Y, Y, Y, Y, Y, Y, Y, Y, Y, Y, Y, Y, Y, Y, Y, Y, Y, Y, Y, Y, Y, Y, Y, Y, Y, Y, Y, Y, Y, Y, Y, Y, Y, Y, Yn, Yn, Yn, Yn, Yn, Yn, Yn, Yn, Yn, Yn] rfl rfl (by kernel_rfl) (fun _ _ _ h => h) (Or.inl ⟨by rfl, ?_⟩) ?_ ?_
  rotate_left
  · intro w'
    go_simp
    with_reducible rfl
  rotate_left
  · simp only [Act.put, List.setIfInBounds_toArray, List.set_cons_zero, List.set_cons_succ, i64_w, i32_w]
    rfl
  refine one_ (i := 37) (N := some 183) #[Y, Y, Y, Y, Y, Y, Y, Y, Y, Y, Y, Y, Y, Y, Y, Y, Y, Y, Y, Y, Y, Y, Y, Y, Y, Y, Y, Y, Y, Y, Y, Y, Y, Y, Y, Y, Y, Y, Yn, Yn, Yn, Yn, Yn, Yn, Yn, Yn, Yn] rfl rfl (by kernel_rfl) (by decide) (fun K hK => ?_)
  refine goes_ Tryd.func16 (by kernel_rfl) rfl #[.agg #[.int .i64 0, .int .i64 0, .int .i64 0, .bool false, .int .i64 0, .string ⟨#[]⟩]] (by rfl) rfl rfl (by simp only [List.map_toArray, List.map_cons, List.map_nil]; rfl) ?_
  with_reducible refine (segment_Check.calls 40 0 0 0 false 0 ⟨#[]⟩ 3 _ (Glob.below HG.out HN16.out.base) chkZ).mono ?_
  rintro e w16b ⟨rfl, hb2_⟩
  refine ⟨_, rfl, ?_⟩
  have HN16b := Aside0.mk (HN16.out.below hb2_)
  have HPa16b := Aside0.mk (HPa16.out.keep (Keep23.of_below hb2_))
  have HX16b := Aside0.mk (blk_below HX16.out hb2_)
  have hb2_ := Aside0.mk hb2_
  refine hK.out _ _ ⟨hHeld.1.below hb2_.out, hHeld.2.below hb2_.out⟩ (fun hHeld => ?_)
  clear hK K
  refine norm_ (a' := ?_) ?_ ?_
  rotate_left
  · show Act.put _ (some 183) _ = _
    simp only [Act.put, List.setIfInBounds_toArray, List.set_cons_zero, List.set_cons_succ, i64_w, i32_w]
    rfl
  refine pure_ (i := 38) (N := some 184) (v := ?_) (a' := ?_) #[Y, Y, Y, Y, Y, Y, Y, Y, Y, Y, Y, Y, Y, Y, Y, Y, Y, Y, Y, Y, Y, Y, Y, Y, Y, Y, Y, Y, Y, Y, Y, Y, Y, Y, Y, Y, Y, Y, Y, Yn, Yn, Yn, Yn, Yn, Yn, Yn, Yn] rfl rfl (by kernel_rfl) (fun _ _ _ h => h) (Or.inl ⟨by rfl, ?_⟩) ?_ ?_
  rotate_left
  · intro w'
    go_simp
    with_reducible rfl
  rotate_left
  · simp only [Act.put, List.setIfInBounds_toArray, List.set_cons_zero, List.set_cons_succ, i64_w, i32_w]
    rfl
  refine pure_ (i := 39) (N := some 185) (v := ?_) (a' := ?_) #[Y, Y, Y, Y, Y, Y, Y, Y, Y, Y, Y, Y, Y, Y, Y, Y, Y, Y, Y, Y, Y, Y, Y, Y, Y, Y, Y, Y, Y, Y, Y, Y, Y, Y, Y, Y, Y, Y, Y, Y, Yn, Yn, Yn, Yn, Yn, Yn, Yn] rfl rfl (by kernel_rfl) (fun _ _ _ h => h) (Or.inl ⟨by rfl, ?_⟩) ?_ ?_
  rotate_left
  · intro w'
    go_simp
    with_reducible rfl
  rotate_left
  · simp only [Act.put, List.setIfInBounds_toArray, List.set_cons_zero, List.set_cons_succ, i64_w, i32_w]
    rfl
  refine pure_ (i := 40) (N := some 186) (v := ?_) (a' := ?_) #[Y, Y, Y, Y, Y, Y, Y, Y, Y, Y, Y, Y, Y, Y, Y, Y, Y, Y, Y, Y, Y, Y, Y, Y, Y, Y, Y, Y, Y, Y, Y, Y, Y, Y, Y, Y, Y, Y, Y, Y, Y, Yn, Yn, Yn, Yn, Yn, Yn] rfl rfl (by kernel_rfl) (fun _ _ _ h => h) (Or.inl ⟨by rfl, ?_⟩) ?_ ?_
  rotate_left
  · intro w'
    go_simp
    with_reducible rfl
  rotate_left
  · simp only [Act.put, List.setIfInBounds_toArray, List.set_cons_zero, List.set_cons_succ, i64_w, i32_w]
    rfl
  refine pure_ (i := 41) (N := some 187) (v := ?_) (a' := ?_) #[Y, Y, Y, Y, Y, Y, Y, Y, Y, Y, Y, Y, Y, Y, Y, Y, Y, Y, Y, Y, Y, Y, Y, Y, Y, Y, Y, Y, Y, Y, Y, Y, Y, Y, Y, Y, Y, Y, Y, Y, Y, Y, Yn, Yn, Yn, Yn, Yn] rfl rfl (by kernel_rfl) (fun _ _ _ h => h) (Or.inl ⟨by rfl, ?_⟩) ?_ ?_
  rotate_left
  · intro w'
    go_simp
    with_reducible rfl
  rotate_left
  · simp only [Act.put, List.setIfInBounds_toArray, List.set_cons_zero, List.set_cons_succ, i64_w, i32_w]
    rfl
  refine one_ (i := 42) (N := some 188) #[Y, Y, Y, Y, Y, Y, Y, Y, Y, Y, Y, Y, Y, Y, Y, Y, Y, Y, Y, Y, Y, Y, Y, Y, Y, Y, Y, Y, Y, Y, Y, Y, Y, Y, Y, Y, Y, Y, Y, Y, Y, Y, Y, Yn, Yn, Yn, Yn] rfl rfl (by kernel_rfl) (by decide) (fun K hK => ?_)
  refine goes_ Tryd.func32 (by kernel_rfl) rfl #[.pointer (some ⟨gr, 0, none⟩), .int .i64 1000] (by rfl) rfl rfl (by simp only [List.map_toArray, List.map_cons, List.map_nil]; rfl) ?_
  with_reducible refine (rtA w ws _ gs gr sA3 _ HN16b.out).mono ?_
  rintro e w17 ⟨A17, rfl, hn, hk⟩
  refine ⟨_, rfl, ?_⟩
  have HN17 := Aside0.mk hn
  clear hn
  refine hK.out _ _ ⟨(Pt.row (x := P0) (xs := [P1]) (HPa16b.out.keep hk) (by decide)), (row_blk (hk.keep _ _ HX16b.out))⟩ (fun hHeld => ?_)
  clear hK K
  refine norm_ (a' := ?_) ?_ ?_
  rotate_left
  · show Act.put _ (some 188) _ = _
    simp only [Act.put, List.setIfInBounds_toArray, List.set_cons_zero, List.set_cons_succ, i64_w, i32_w]
    rfl
  refine pure_ (i := 43) (N := some 189) (v := ?_) (a' := ?_) #[Y, Y, Y, Y, Y, Y, Y, Y, Y, Y, Y, Y, Y, Y, Y, Y, Y, Y, Y, Y, Y, Y, Y, Y, Y, Y, Y, Y, Y, Y, Y, Y, Y, Y, Y, Y, Y, Y, Y, Y, Y, Y, Y, Y, Yn, Yn, Yn] rfl rfl (by kernel_rfl) (fun _ _ _ h => h) (Or.inl ⟨by rfl, ?_⟩) ?_ ?_
  rotate_left
  · intro w'
    go_simp
    with_reducible rfl
  rotate_left
  · simp only [Act.put, List.setIfInBounds_toArray, List.set_cons_zero, List.set_cons_succ, i64_w, i32_w]
    rfl
  refine pure_ (i := 44) (N := some 190) (v := ?_) (a' := ?_) #[Y, Y, Y, Y, Y, Y, Y, Y, Y, Y, Y, Y, Y, Y, Y, Y, Y, Y, Y, Y, Y, Y, Y, Y, Y, Y, Y, Y, Y, Y, Y, Y, Y, Y, Y, Y, Y, Y, Y, Y, Y, Y, Y, Y, Y, Yn, Yn] rfl rfl (by kernel_rfl) (fun _ _ _ h => h) (Or.inl ⟨by rfl, ?_⟩) ?_ ?_
  rotate_left
  · intro w'
    go_simp
    with_reducible rfl
  rotate_left
  · simp only [Act.put, List.setIfInBounds_toArray, List.set_cons_zero, List.set_cons_succ, i64_w, i32_w]
    rfl
  refine pure_ (i := 45) (N := some 191) (v := ?_) (a' := ?_) #[Y, Y, Y, Y, Y, Y, Y, Y, Y, Y, Y, Y, Y, Y, Y, Y, Y, Y, Y, Y, Y, Y, Y, Y, Y, Y, Y, Y, Y, Y, Y, Y, Y, Y, Y, Y, Y, Y, Y, Y, Y, Y, Y, Y, Y, Y, Yn] rfl rfl (by kernel_rfl) (fun _ _ _ h => h) (Or.inl ⟨by rfl, ?_⟩) ?_ ?_
  rotate_left
  · intro w'
    go_simp
    with_reducible rfl
  rotate_left
  · simp only [Act.put, List.setIfInBounds_toArray, List.set_cons_zero, List.set_cons_succ, i64_w, i32_w]
    rfl
  refine pure_ (i := 46) (N := some 0) (v := ?_) (a' := ?_) #[Y, Y, Y, Y, Y, Y, Y, Y, Y, Y, Y, Y, Y, Y, Y, Y, Y, Y, Y, Y, Y, Y, Y, Y, Y, Y, Y, Y, Y, Y, Y, Y, Y, Y, Y, Y, Y, Y, Y, Y, Y, Y, Y, Y, Y, Y, Y] rfl rfl (by kernel_rfl) (fun _ _ _ h => h) (Or.inl ⟨by rfl, ?_⟩) ?_ ?_
  rotate_left
  · intro w'
    go_simp
    with_reducible rfl
  rotate_left
  · simp only [Act.put, List.setIfInBounds_toArray, List.set_cons_zero, List.set_cons_succ, i64_w, i32_w]
    rfl
  refine done_ (by kernel_rfl) ?_
  go_wp2
  go_ret
  exact ⟨rfl, HN17.out.base⟩
end Go.Proofs.YtbgabhknmpbgiaaDoor.S
end
section
namespace Go.Proofs.YtbgabhknmpbgiaaDoor.S
open Go.RowKit Go.Proofs.YtbgabhknmpbgiaaDoorW.PrintWords Go.Proofs.YtbgabhknmpbgiaaDoorW.PrintLast Go.Proofs.YtbgabhknmpbgiaaDoorW.PrintMore
attribute [local go_sem] max2_int min2_int max_two min_two max_three min_three max_four min_four
set_option linter.unusedVariables false
set_option linter.unusedSimpArgs false
def plenumref49_Small.l0 : Nat → List (S54) → Int → Option (Bool)
  | 0, _, _ => none
  | k + 1, x0, x5 => if x5 < (x0.length : Int) then (if 0 ≤ x5 then (if (((rd_T54 x0 x5).f0.f5).size : Int) > 100 then (some false) else (if ((rd_T54 x0 x5).f1) < 0 then (some false) else (if ((rd_T54 x0 x5).f1) > 6311433599 then (some false) else (plenumref49_Small.l0 k x0 (wrap64 (x5 + 1)))))) else (none)) else (some true)
def plenumref49_Small.f (k : Nat) (l0 : List (S54)) (a1 : Int) : Option (Bool) := if (l0.length : Int) > a1 then (some false) else (plenumref49_Small.l0 k l0 0)
set_option maxHeartbeats 8000000 in
set_option maxRecDepth 100000 in
theorem plenumref49_Small.calls (k : Nat) (A0 : Option Addr) (c0 : Nat) (l0 : List (S54)) (a1 : Int) (r : Bool) (w : World) (hG : Glob w) (hr0 : Kd.C k54 w A0 l0.length l0) (hc0 : l0.length ≤ c0) (h : plenumref49_Small.f k l0 a1 = some r) :
    Calls Tryd.prog 20 #[.slice A0 l0.length c0, .int .i64 a1] w fun e w' => e = .returned (.bool r) ∧ Drawn0 w w' := by
  have HG := Aside0.mk hG
  clear hG
  have HR0 := Aside0.mk hr0
  have HC0 := Aside0.mk hc0
  clear hr0 hc0
  have H : (if (l0.length : Int) > a1 then (some false) else (plenumref49_Small.l0 k l0 0)) = some r := h
  clear h
  by_cases c3 : (l0.length : Int) > a1
  · rw [if_pos c3] at H
    have c3b0 : decide (a1 < (l0.length : Int)) = true := decide_eq_true c3
    clear c3
    obtain rfl := Option.some.inj H
    go_enter Tryd.func20, Tryd.ntmps20
    go_wp2
    go_ret
    exact ⟨by first | rfl | (simp; done) | (simp [*]; done), by repeat (first | exact Drawn0.refl _ | apply Drawn0.step)⟩
  · rw [if_neg c3] at H
    have c3b0 : decide (a1 < (l0.length : Int)) = false := decide_eq_false c3
    clear c3
    have H' := Aside0.mk H
    clear H
    go_enter Tryd.func20, Tryd.ntmps20
    go_wp2
    go_loopg [5] k (fun kq v5 w' => ∃ (x5_1 : Int), v5 = .int .i64 x5_1 ∧ Aside0 (plenumref49_Small.l0 kq l0 x5_1 = some r) ∧ Aside0 (kq ≤ k) ∧ Drawn0 w w')
    case atStart => exact ⟨(0), (by first | rfl | (simp; done) | (simp [*]; done)), H', ⟨Nat.le_refl _⟩, by repeat (first | exact Drawn0.refl _ | apply Drawn0.step)⟩
    case round =>
      clear H'
      try clear c2
      try clear p2
      try clear c3
      try clear c3b0
      obtain ⟨x5_1, rfl, HA, HK1, ⟨m1, rfl⟩⟩ := hrel
      cases gk with
      | zero => exact absurd HA.out (by simp [plenumref49_Small.l0])
      | succ k1 =>
        have H := HA.out
        clear HA
        simp only [plenumref49_Small.l0] at H
        by_cases c4 : x5_1 < (l0.length : Int)
        · rw [if_pos c4] at H
          have c4b0 : decide (x5_1 < (l0.length : Int)) = true := decide_eq_true c4
          clear c4
          by_cases c5 : 0 ≤ x5_1
          · rw [if_pos c5] at H
            have c5b0 : decide (0 ≤ x5_1) = true := decide_eq_true c5
            clear c5
            by_cases c6 : (((rd_T54 l0 x5_1).f0.f5).size : Int) > 100
            · rw [if_pos c6] at H
              have c6b0 : decide (100 < (((rd_T54 l0 x5_1).f0.f5).size : Int)) = true := decide_eq_true c6
              have c6b1 : decide (100 < ((rd_T54 l0 x5_1).f0.f5).size) = true := decide_eq_true (by omega)
              clear c6
              obtain rfl := Option.some.inj H
              have p333 : 0 ≤ (x5_1 : Int) := of_decide_eq_true (by first | (with_reducible assumption) | assumption)
              have q333 : x5_1 < (l0.length : Int) := of_decide_eq_true (by first | (with_reducible assumption) | assumption)
              obtain ⟨ad333, e333, hx333_0, hx333_1, hx333_2, hx333_3, hx333_4, hx333_5, hx333_6⟩ := at_T54 HR0.out x5_1 p333 q333
              cases e333
              replace p333 := eq_true p333
              replace q333 := eq_true q333
              go_wp2
              go_ret
              exact ⟨by first | rfl | (simp; done) | (simp [*]; done), by repeat (first | exact Drawn0.refl _ | apply Drawn0.step)⟩
            · rw [if_neg c6] at H
              have c6b0 : decide (100 < (((rd_T54 l0 x5_1).f0.f5).size : Int)) = false := decide_eq_false c6
              have c6b1 : decide (100 < ((rd_T54 l0 x5_1).f0.f5).size) = false := decide_eq_false (by omega)
              clear c6
              by_cases c7 : ((rd_T54 l0 x5_1).f1) < 0
              · rw [if_pos c7] at H
                have c7b0 : decide (((rd_T54 l0 x5_1).f1) < 0) = true := decide_eq_true c7
                clear c7
                obtain rfl := Option.some.inj H
                have p333 : 0 ≤ (x5_1 : Int) := of_decide_eq_true (by first | (with_reducible assumption) | assumption)
                have q333 : x5_1 < (l0.length : Int) := of_decide_eq_true (by first | (with_reducible assumption) | assumption)
                obtain ⟨ad333, e333, hx333_0, hx333_1, hx333_2, hx333_3, hx333_4, hx333_5, hx333_6⟩ := at_T54 HR0.out x5_1 p333 q333
                cases e333
                replace p333 := eq_true p333
                replace q333 := eq_true q333
                have p334 : 0 ≤ (x5_1 : Int) := of_decide_eq_true (by first | (with_reducible assumption) | assumption)
                have q334 : x5_1 < (l0.length : Int) := of_decide_eq_true (by first | (with_reducible assumption) | assumption)
                obtain ⟨ad334, e334, hx334_0, hx334_1, hx334_2, hx334_3, hx334_4, hx334_5, hx334_6⟩ := at_T54 HR0.out x5_1 p334 q334
                obtain rfl : ad333 = ad334 := (by injection e334)
                replace p334 := eq_true p334
                replace q334 := eq_true q334
                go_wp2
                go_ret
                exact ⟨by first | rfl | (simp; done) | (simp [*]; done), by repeat (first | exact Drawn0.refl _ | apply Drawn0.step)⟩
              · rw [if_neg c7] at H
                have c7b0 : decide (((rd_T54 l0 x5_1).f1) < 0) = false := decide_eq_false c7
                clear c7
                by_cases c8 : ((rd_T54 l0 x5_1).f1) > 6311433599
                · rw [if_pos c8] at H
                  have c8b0 : decide (6311433599 < ((rd_T54 l0 x5_1).f1)) = true := decide_eq_true c8
                  clear c8
                  obtain rfl := Option.some.inj H
                  have p333 : 0 ≤ (x5_1 : Int) := of_decide_eq_true (by first | (with_reducible assumption) | assumption)
                  have q333 : x5_1 < (l0.length : Int) := of_decide_eq_true (by first | (with_reducible assumption) | assumption)
                  obtain ⟨ad333, e333, hx333_0, hx333_1, hx333_2, hx333_3, hx333_4, hx333_5, hx333_6⟩ := at_T54 HR0.out x5_1 p333 q333
                  cases e333
                  replace p333 := eq_true p333
                  replace q333 := eq_true q333
                  have p334 : 0 ≤ (x5_1 : Int) := of_decide_eq_true (by first | (with_reducible assumption) | assumption)
                  have q334 : x5_1 < (l0.length : Int) := of_decide_eq_true (by first | (with_reducible assumption) | assumption)
                  obtain ⟨ad334, e334, hx334_0, hx334_1, hx334_2, hx334_3, hx334_4, hx334_5, hx334_6⟩ := at_T54 HR0.out x5_1 p334 q334
                  obtain rfl : ad333 = ad334 := (by injection e334)
                  replace p334 := eq_true p334
                  replace q334 := eq_true q334
                  have p335 : 0 ≤ (x5_1 : Int) := of_decide_eq_true (by first | (with_reducible assumption) | assumption)
                  have q335 : x5_1 < (l0.length : Int) := of_decide_eq_true (by first | (with_reducible assumption) | assumption)
                  obtain ⟨ad335, e335, hx335_0, hx335_1, hx335_2, hx335_3, hx335_4, hx335_5, hx335_6⟩ := at_T54 HR0.out x5_1 p335 q335
                  obtain rfl : ad333 = ad335 := (by injection e335)
                  replace p335 := eq_true p335
                  replace q335 := eq_true q335
                  go_wp2
                  go_ret
                  exact ⟨by first | rfl | (simp; done) | (simp [*]; done), by repeat (first | exact Drawn0.refl _ | apply Drawn0.step)⟩
                · rw [if_neg c8] at H
                  have c8b0 : decide (6311433599 < ((rd_T54 l0 x5_1).f1)) = false := decide_eq_false c8
                  clear c8
                  have H' := Aside0.mk H
                  clear H
                  have p333 : 0 ≤ (x5_1 : Int) := of_decide_eq_true (by first | (with_reducible assumption) | assumption)
                  have q333 : x5_1 < (l0.length : Int) := of_decide_eq_true (by first | (with_reducible assumption) | assumption)
                  obtain ⟨ad333, e333, hx333_0, hx333_1, hx333_2, hx333_3, hx333_4, hx333_5, hx333_6⟩ := at_T54 HR0.out x5_1 p333 q333
                  cases e333
                  replace p333 := eq_true p333
                  replace q333 := eq_true q333
                  have p334 : 0 ≤ (x5_1 : Int) := of_decide_eq_true (by first | (with_reducible assumption) | assumption)
                  have q334 : x5_1 < (l0.length : Int) := of_decide_eq_true (by first | (with_reducible assumption) | assumption)
                  obtain ⟨ad334, e334, hx334_0, hx334_1, hx334_2, hx334_3, hx334_4, hx334_5, hx334_6⟩ := at_T54 HR0.out x5_1 p334 q334
                  obtain rfl : ad333 = ad334 := (by injection e334)
                  replace p334 := eq_true p334
                  replace q334 := eq_true q334
                  have p335 : 0 ≤ (x5_1 : Int) := of_decide_eq_true (by first | (with_reducible assumption) | assumption)
                  have q335 : x5_1 < (l0.length : Int) := of_decide_eq_true (by first | (with_reducible assumption) | assumption)
                  obtain ⟨ad335, e335, hx335_0, hx335_1, hx335_2, hx335_3, hx335_4, hx335_5, hx335_6⟩ := at_T54 HR0.out x5_1 p335 q335
                  obtain rfl : ad333 = ad335 := (by injection e335)
                  replace p335 := eq_true p335
                  replace q335 := eq_true q335
                  go_wp2
                  go_roundg k1
                  case measure => have := HK1.out; omega
                  case rel => exact ⟨(wrap64 (x5_1 + 1)), (by first | rfl | (simp; done) | (simp [*]; done)), H', ⟨by have := HK1.out; omega⟩, by repeat (first | exact Drawn0.refl _ | apply Drawn0.step)⟩
          · rw [if_neg c5] at H
            exact absurd H (by simp)
        · rw [if_neg c4] at H
          have c4b0 : decide (x5_1 < (l0.length : Int)) = false := decide_eq_false c4
          clear c4
          obtain rfl := Option.some.inj H
          go_wp2
          go_ret
          exact ⟨by first | rfl | (simp; done) | (simp [*]; done), by repeat (first | exact Drawn0.refl _ | apply Drawn0.step)⟩
end Go.Proofs.YtbgabhknmpbgiaaDoor.S
end
section
namespace Go.Proofs.YtbgabhknmpbgiaaDoor.S
open Go.RowKit Go.Proofs.YtbgabhknmpbgiaaDoorW.PrintWords Go.Proofs.YtbgabhknmpbgiaaDoorW.PrintLast Go.Proofs.YtbgabhknmpbgiaaDoorW.PrintMore
attribute [local go_sem] max2_int min2_int max_two min_two max_three min_three max_four min_four
set_option linter.unusedVariables false
set_option linter.unusedSimpArgs false
def plenumlaw49_back.f (a0_0 : Int) (a0_1 : Int) (a0_2 : Int) (a0_3 : Bool) (a0_4 : Int) (a0_5 : ByteArray) : Option (Int × Int × Int × Bool × Int × ByteArray) := some (a0_0, a0_1, a0_2, a0_3, a0_4, a0_5)
set_option maxHeartbeats 8000000 in
set_option maxRecDepth 100000 in
theorem plenumlaw49_back.calls (a0_0 : Int) (a0_1 : Int) (a0_2 : Int) (a0_3 : Bool) (a0_4 : Int) (a0_5 : ByteArray) (r1 : Int) (r2 : Int) (r3 : Int) (r4 : Bool) (r5 : Int) (r6 : ByteArray) (w : World) (hG : Glob w) (h : plenumlaw49_back.f a0_0 a0_1 a0_2 a0_3 a0_4 a0_5 = some (r1, r2, r3, r4, r5, r6)) :
    Calls Tryd.prog 27 #[.agg #[.int .i64 a0_0, .int .i64 a0_1, .int .i64 a0_2, .bool a0_3, .int .i64 a0_4, .string a0_5]] w fun e w' => e = .returned (.agg #[.int .i64 r1, .int .i64 r2, .int .i64 r3, .bool r4, .int .i64 r5, .string r6]) ∧ Below w.heap.size w w' := by
  have hu27 := Tryd.underlying27
  have hu23 := Tryd.underlying23
  have HG := Aside0.mk hG
  clear hG
  have HB := Aside0.mk (Below.refl w.heap.size w)
  have H : (some (a0_0, a0_1, a0_2, a0_3, a0_4, a0_5)) = some (r1, r2, r3, r4, r5, r6) := h
  clear h
  simp only [Option.some.injEq, Prod.mk.injEq] at H
  obtain ⟨rfl, rfl, rfl, rfl, rfl, rfl⟩ := H
  go_enter Tryd.func27, Tryd.ntmps27
  go_wp2_with (first | ((with_reducible refine gate_dst (N := 1) rfl ?_); refine box_event ?hg (N := 1) ?hd (cs := #[.int .i64 a0_0, .int .i64 a0_1, .int .i64 a0_2, .bool a0_3, .int .i64 a0_4, .string a0_5]) (t := 27) ?hr ?_; (case hd => rfl); (case hg => rfl); (case hr => first | (go_simp; done) | (go_simp; rfl)); intro gb351 hg w2 hbox hb; have n0_ := Aside0.mk (below_step (by repeat (first | (with_reducible first | exact HB.out | apply below_alloc | apply pw_below_drewN | apply below_drew1) | exact HB.out)) hb); have n1_ := Aside0.mk (hbox); have n2_ := Aside0.mk ((by rw [hg]; exact (below_size (by repeat (first | (with_reducible first | exact HB.out | apply below_alloc | apply pw_below_drewN | apply below_drew1) | exact HB.out))) : w.heap.size ≤ gb351)); have n3_ := Aside0.mk ((by rw [hg]; exact (below_size (by repeat (first | (with_reducible first | exact HB.out | apply below_alloc | apply pw_below_drewN | apply below_drew1) | exact HB.out))) : w.heap.size ≤ gb351)); clear HB; have HB := n0_; have BK351 := n1_; have GW351 := n2_; have GE351 := n3_; clear n0_ n1_ n2_ n3_; clear hb hbox hg) | ((with_reducible refine gate_dst (N := 2) rfl ?_); refine box_event ?hg (N := 2) ?hd (cs := #[.int .i64 0, .int .i64 0, .int .i64 0, .bool false, .int .i64 0, .string (⟨#[]⟩ : ByteArray)]) (t := 23) ?hr ?_; (case hd => rfl); (case hg => rfl); (case hr => first | (go_simp; done) | (go_simp; rfl)); intro gb352 hg w3 hbox hb; have n0_ := Aside0.mk (blk_below (g := gb351) (o := .cells #[.int .i64 a0_0, .int .i64 a0_1, .int .i64 a0_2, .bool a0_3, .int .i64 a0_4, .string a0_5] 27 (0, 0)) (by (with_reducible repeat (first | refine blk_drewN ?_ _ | refine blk_drew ?_ | refine blk_alloc ?_ _)); exact BK351.out) hb); have n1_ := Aside0.mk (below_step (by repeat (first | (with_reducible first | exact HB.out | apply below_alloc | apply pw_below_drewN | apply below_drew1 | refine below_set ?_ GE351.out) | exact HB.out)) hb); have n2_ := Aside0.mk (hbox); have n3_ := Aside0.mk ((by rw [hg]; exact (below_size (by repeat (first | (with_reducible first | exact HB.out | apply below_alloc | apply pw_below_drewN | apply below_drew1 | refine below_set ?_ GE351.out) | exact HB.out))) : w.heap.size ≤ gb352)); have n4_ := Aside0.mk ((by rw [hg]; exact (below_size (by repeat (first | (with_reducible first | exact HB.out | apply below_alloc | apply pw_below_drewN | apply below_drew1 | refine below_set ?_ GE351.out) | exact HB.out))) : w.heap.size ≤ gb352)); have n5_ := Aside0.mk ((by rw [hg]; exact Nat.ne_of_lt (blk_lt (g := gb351) (o := .cells #[.int .i64 a0_0, .int .i64 a0_1, .int .i64 a0_2, .bool a0_3, .int .i64 a0_4, .string a0_5] 27 (0, 0)) (by (with_reducible repeat (first | refine blk_drewN ?_ _ | refine blk_drew ?_ | refine blk_alloc ?_ _)); exact BK351.out)) : gb351 ≠ gb352)); have n6_ := Aside0.mk ((by rw [hg]; exact Nat.ne_of_gt (blk_lt (g := gb351) (o := .cells #[.int .i64 a0_0, .int .i64 a0_1, .int .i64 a0_2, .bool a0_3, .int .i64 a0_4, .string a0_5] 27 (0, 0)) (by (with_reducible repeat (first | refine blk_drewN ?_ _ | refine blk_drew ?_ | refine blk_alloc ?_ _)); exact BK351.out)) : gb352 ≠ gb351)); clear BK351; clear HB; have BK351 := n0_; have HB := n1_; have BK352 := n2_; have GW352 := n3_; have GE352 := n4_; have NB351_352 := n5_; have NB352_351 := n6_; clear n0_ n1_ n2_ n3_ n4_ n5_ n6_; clear hb hbox hg; have hnb4 := NB351_352.out; have hnc4 := NB352_351.out; have hcz5_0 : w3.cell? ⟨gb351, 0, none⟩ = some (.int .i64 a0_0) := (blk_cell BK351.out 0).trans rfl; have hcz5_1 : w3.cell? ⟨gb351, 1, none⟩ = some (.int .i64 a0_1) := (blk_cell BK351.out 1).trans rfl; have hcz5_2 : w3.cell? ⟨gb351, 2, none⟩ = some (.int .i64 a0_2) := (blk_cell BK351.out 2).trans rfl; have hcz5_3 : w3.cell? ⟨gb351, 3, none⟩ = some (.bool a0_3) := (blk_cell BK351.out 3).trans rfl; have hcz5_4 : w3.cell? ⟨gb351, 4, none⟩ = some (.int .i64 a0_4) := (blk_cell BK351.out 4).trans rfl; have hcz5_5 : w3.cell? ⟨gb351, 5, none⟩ = some (.string a0_5) := (blk_cell BK351.out 5).trans rfl; have hfz5_0 := blk_frozen BK351.out 0; have hfz5_1 := blk_frozen BK351.out 1; have hfz5_2 := blk_frozen BK351.out 2; have hfz5_3 := blk_frozen BK351.out 3; have hfz5_4 := blk_frozen BK351.out 4; have hfz5_5 := blk_frozen BK351.out 5; have hcz6_0 : w3.cell? ⟨gb352, 0, none⟩ = some (.int .i64 0) := (blk_cell BK352.out 0).trans rfl; have hcz6_1 : w3.cell? ⟨gb352, 1, none⟩ = some (.int .i64 0) := (blk_cell BK352.out 1).trans rfl; have hcz6_2 : w3.cell? ⟨gb352, 2, none⟩ = some (.int .i64 0) := (blk_cell BK352.out 2).trans rfl; have hcz6_3 : w3.cell? ⟨gb352, 3, none⟩ = some (.bool false) := (blk_cell BK352.out 3).trans rfl; have hcz6_4 : w3.cell? ⟨gb352, 4, none⟩ = some (.int .i64 0) := (blk_cell BK352.out 4).trans rfl; have hcz6_5 : w3.cell? ⟨gb352, 5, none⟩ = some (.string (⟨#[]⟩ : ByteArray)) := (blk_cell BK352.out 5).trans rfl; have hfz6_0 := blk_frozen BK352.out 0; have hfz6_1 := blk_frozen BK352.out 1; have hfz6_2 := blk_frozen BK352.out 2; have hfz6_3 := blk_frozen BK352.out 3; have hfz6_4 := blk_frozen BK352.out 4; have hfz6_5 := blk_frozen BK352.out 5))
  refine bodyPost_ret (results_cell_row rfl _ _ gb352 23 #[.int .i64 a0_0, .int .i64 a0_1, .int .i64 a0_2, .bool a0_3, .int .i64 a0_4, .string a0_5] (0, 0) _ rfl (by (with_reducible repeat (first | refine blk_drewN ?_ _ | refine blk_drew ?_ | refine blk_alloc ?_ _)); refine blk_put (cs := #[.int .i64 a0_0, .int .i64 a0_1, .int .i64 a0_2, .bool a0_3, .int .i64 a0_4, .string (⟨#[]⟩ : ByteArray)]) ?_ 5 _ rfl; (with_reducible repeat (first | refine blk_drewN ?_ _ | refine blk_drew ?_ | refine blk_alloc ?_ _)); refine blk_put (cs := #[.int .i64 a0_0, .int .i64 a0_1, .int .i64 a0_2, .bool a0_3, .int .i64 0, .string (⟨#[]⟩ : ByteArray)]) ?_ 4 _ rfl; (with_reducible repeat (first | refine blk_drewN ?_ _ | refine blk_drew ?_ | refine blk_alloc ?_ _)); refine blk_put (cs := #[.int .i64 a0_0, .int .i64 a0_1, .int .i64 a0_2, .bool false, .int .i64 0, .string (⟨#[]⟩ : ByteArray)]) ?_ 3 _ rfl; (with_reducible repeat (first | refine blk_drewN ?_ _ | refine blk_drew ?_ | refine blk_alloc ?_ _)); refine blk_put (cs := #[.int .i64 a0_0, .int .i64 a0_1, .int .i64 0, .bool false, .int .i64 0, .string (⟨#[]⟩ : ByteArray)]) ?_ 2 _ rfl; (with_reducible repeat (first | refine blk_drewN ?_ _ | refine blk_drew ?_ | refine blk_alloc ?_ _)); refine blk_put (cs := #[.int .i64 a0_0, .int .i64 0, .int .i64 0, .bool false, .int .i64 0, .string (⟨#[]⟩ : ByteArray)]) ?_ 1 _ rfl; (with_reducible repeat (first | refine blk_drewN ?_ _ | refine blk_drew ?_ | refine blk_alloc ?_ _)); refine blk_put (cs := #[.int .i64 0, .int .i64 0, .int .i64 0, .bool false, .int .i64 0, .string (⟨#[]⟩ : ByteArray)]) ?_ 0 _ rfl; (with_reducible repeat (first | refine blk_drewN ?_ _ | refine blk_drew ?_ | refine blk_alloc ?_ _)); exact BK352.out) Tryd.underlying23 rfl (by kernel_rfl)) rfl ?_
  exact ⟨by first | rfl | (simp [errW_none, errW_some] <;> rfl) | (simp [*, errW_none, errW_some] <;> rfl), by repeat (first | (with_reducible first | exact HB.out | apply below_alloc | apply pw_below_drewN | apply below_drew1 | refine below_set ?_ GE351.out | refine below_set ?_ GE352.out) | exact HB.out)⟩
end Go.Proofs.YtbgabhknmpbgiaaDoor.S
end
section
namespace Go.Proofs.YtbgabhknmpbgiaaDoor.S
open Go.RowKit Go.Proofs.YtbgabhknmpbgiaaDoor.Pure Go.Proofs.YtbgabhknmpbgiaaDoorW.PrintWords Go.Proofs.YtbgabhknmpbgiaaDoorW.PrintLast Go.Proofs.YtbgabhknmpbgiaaDoorW.PrintMore
set_option linter.unusedVariables false
set_option linter.unusedSimpArgs false
attribute [local go_sem] max2_int min2_int max_two min_two
theorem small_loop (l : List S54) : ∀ (d i F : Nat), i + d = l.length → l.length ≤ 30 → ∃ b, plenumref49_Small.l0 (F + d + 1) l (i : Int) = some b ∧ (b = true → ∀ j : Nat, i ≤ j → j < l.length → (rd_T54 l (j : Int)).f0.f5.size ≤ 100) := by
  intro d
  induction d with
  | zero =>
    intro i F hi hl
    rw [show F + 0 + 1 = F + 1 from rfl]
    unfold plenumref49_Small.l0
    rw [if_neg (by omega)]
    exact ⟨true, rfl, fun _ j h1 h2 => by omega⟩
  | succ d ih =>
    intro i F hi hl
    rw [show F + (d + 1) + 1 = (F + d + 1) + 1 by omega]
    unfold plenumref49_Small.l0
    rw [if_pos (by omega), if_pos (by omega)]
    split
    · exact ⟨false, rfl, fun h => by cases h⟩
    · rename_i h1
      split
      · exact ⟨false, rfl, fun h => by cases h⟩
      · split
        · exact ⟨false, rfl, fun h => by cases h⟩
        · rw [show wrap64 ((i : Int) + 1) = ((i + 1 : Nat) : Int) by unfold wrap64; omega]
          obtain ⟨b, hb, hb2⟩ := ih (i + 1) F (by omega) hl
          refine ⟨b, hb, fun hbt j h2 h3 => ?_⟩
          by_cases e : j = i
          · subst e
            omega
          · exact hb2 hbt j (by omega) h3
theorem small_some (l : List S54) : ∃ b, plenumref49_Small.f 40 l 30 = some b ∧ (b = true → l.length ≤ 30 ∧ ∀ j : Nat, j < l.length → (rd_T54 l (j : Int)).f0.f5.size ≤ 100) := by
  unfold plenumref49_Small.f
  by_cases h : (l.length : Int) > 30
  · rw [if_pos h]
    exact ⟨false, rfl, fun h => by cases h⟩
  · rw [if_neg h]
    obtain ⟨b, hb, hb2⟩ := small_loop l l.length 0 (39 - l.length) (by omega) (by omega)
    rw [show 39 - l.length + l.length + 1 = 40 by omega] at hb
    exact ⟨b, hb, fun hbt => ⟨by omega, fun j hj => hb2 hbt j (Nat.zero_le _) hj⟩⟩
theorem same_nil (w : World) (hG : Glob w) : Calls Tryd.prog 23 #[.slice none 0 0, .slice none 0 0] w fun e w' => e = .returned (.bool true) ∧ Below w.heap.size w w' :=
  plenumlaw49_same.calls 100 none 0 [] none 0 [] true w hG ⟨rfl, by decide, fun h => absurd h (by decide)⟩ (Nat.le_refl _) ⟨rfl, by decide, fun h => absurd h (by decide)⟩ (Nat.le_refl _) (same_conv [] (by decide))
theorem same_eq (A A' : Option Addr) (c : Nat) (xs : List S23) (ys : List S27) (n : Nat) (w : World) (hG : Glob w) (hp : Pt n w (.slice A xs.length xs.length) xs) (hy : xs.map conv = ys) (hv : Kd.V k27 27 w 0 (okT 27 0 w) (.slice A' ys.length c) ys) (hl : xs.length ≤ 64) :
    Calls Tryd.prog 23 #[.slice A xs.length xs.length, .slice A' ys.length c] w fun e w' => e = .returned (.bool true) ∧ Below w.heap.size w w' := by
  subst hy
  exact plenumlaw49_same.calls 100 A xs.length xs A' c (xs.map conv) true w hG hp.C (Nat.le_refl _) (Kd.V_reads' hv).2.2 (Kd.V_reads' hv).2.1 (same_conv xs hl)
theorem state_eq (g : Nat) (s : Sn) (st : Int) (w0 w : World) (h : AtP w0 w g s) (hs : s.state = st) : Calls Tryd.prog 29 #[.pointer (some ⟨g, 0, none⟩)] w fun e w' => e = .returned (.int .i64 st) ∧ w' = w := by
  subst hs
  exact sstate_calls g s w0 w h
theorem V27_below {w w1 : World} {n : Nat} {v : Value} {xs : List S27} (h : Kd.V k27 27 w 0 (okT 27 n w) v xs) (hb : Below w.heap.size w w1) : Kd.V k27 27 w1 0 (okT 27 n w1) v xs := by
  refine Kd.V_mono (Kd.V_step h (fun k ho hlt => ?_)) (fun k ho => ?_)
  · exact hb.block k hlt
  · obtain ⟨h1, cs, hc⟩ := ho
    exact ⟨h1, cs, blk_below hc hb⟩
theorem Two.rstate {w0 ws : World} {gs gr : Nat} {s t : Sn} {st : Int} {w : World} (h : Two w0 ws gs gr s t w) (hs : t.state = st) : w.cell? ⟨gr, 5, none⟩ = some (.int .i64 st) := by
  subst hs
  obtain ⟨wr, ⟨A5, c5, h2, _⟩, _⟩ := h.rcv
  exact (blk_cell h2 5).trans rfl
theorem newE_0 {id window timeout retries e2 : Int} (h : newE id window timeout retries e2 = 0) : e2 = 0 ∧ 1 ≤ window ∧ window ≤ 16 ∧ 0 ≤ retries ∧ retries ≤ 10 ∧ 1 ≤ timeout ∧ timeout ≤ 86400 ∧ 0 ≤ id ∧ id ≤ 255 := by
  unfold newE at h
  split at h
  · rename_i hb
    unfold begE at hb
    split at hb
    · split at h
      · exact ⟨h, by omega⟩
      · exact absurd h (by decide)
    · exact absurd hb (by decide)
  · exact absurd h (by assumption)
theorem okS_new {id window timeout retries now : Int} {segs : List ByteArray} (hl : segs.length ≤ 64) (h0 : 1 ≤ window) (h1 : window ≤ 16) : OkS (newS id window timeout retries segs now).2 ∧ (newS id window timeout retries segs now).1.length ≤ 64 :=
  OkS.send (s := ⟨id, window, timeout, retries, segs, 0, 0, 0, 0, 0⟩) ⟨hl, by show 0 ≤ window; omega, h1, Int.le_refl _, by show (0 : Int) ≤ 64; decide, Int.le_refl _, by show (0 : Int) ≤ 64; decide⟩ now
set_option maxHeartbeats 16000000 in
set_option maxRecDepth 100000 in
theorem sends_walk (id : Int) (message : ByteArray) (size window timeout retries now : Int) (A7 : Option Addr) (c7 : Nat) (l7 : List S54) (w : World) (hG : Glob w) (hr7 : Kd.C k54 w A7 l7.length l7) (hc7 : l7.length ≤ c7) :
    Calls Tryd.prog 5 #[.int .i64 id, .string message, .int .i64 size, .int .i64 window, .int .i64 timeout, .int .i64 retries, .int .i64 now, .slice A7 l7.length c7] w fun e w' => e = .returned (.bool true) ∧ Below w.heap.size w w' := by
  have HG := Aside0.mk hG
  have HR7 := Aside0.mk hr7
  have HC7 := Aside0.mk hc7
  clear hG hr7 hc7
  have hu54 := Tryd.underlying54
  have hu27 := Tryd.underlying27
  obtain ⟨b, hsm, hsb⟩ := small_some l7
  have HSM := Aside0.mk hsm
  have HSB := Aside0.mk hsb
  clear hsm hsb
  by_cases k0 : (message.size : Int) > 300
  · have k0b : decide (300 < (message.size : Int)) = true := decide_eq_true k0
    have k0c : decide (300 < message.size) = true := decide_eq_true (by omega)
    clear k0
    go_enter Tryd.func5, Tryd.ntmps5
    go_wp2_with (first | (go_at_call 10; (with_reducible refine (awake_calls w HG.out).mono ?_); rintro e w1 ⟨rfl, hb⟩; have HB1 := Aside0.mk hb; clear hb))
    go_ret
    exact ⟨rfl, HB1.out⟩
  have HMS := Aside0.mk k0
  have k0b : decide (300 < (message.size : Int)) = false := decide_eq_false k0
  have k0c : decide (300 < message.size) = false := decide_eq_false (by omega)
  clear k0
  cases b with
  | false =>
    go_enter Tryd.func5, Tryd.ntmps5
    go_wp2_with (first | (go_at_call 10; (with_reducible refine (awake_calls w HG.out).mono ?_); rintro e w1 ⟨rfl, hb⟩; have HB1 := Aside0.mk hb; clear hb) | (go_at_call 20; (with_reducible refine (plenumref49_Small.calls 40 A7 c7 l7 30 false w1 (Glob.below HG.out HB1.out) (Kd.C_below HR7.out HB1.out) HC7.out HSM.out).mono ?_); rintro e Wx ⟨rfl, ⟨nd, rfl⟩⟩; have HB2 := Aside0.mk (pw_below_drewN HB1.out nd); generalize w1.drewN nd = w2 at HB2 ⊢))
    go_ret
    exact ⟨rfl, HB2.out⟩
  | true =>
  by_cases k1 : now < 0
  · have k1b : decide (now < 0) = true := decide_eq_true k1
    clear k1
    go_enter Tryd.func5, Tryd.ntmps5
    go_wp2_with (first | (go_at_call 10; (with_reducible refine (awake_calls w HG.out).mono ?_); rintro e w1 ⟨rfl, hb⟩; have HB1 := Aside0.mk hb; clear hb) | (go_at_call 20; (with_reducible refine (plenumref49_Small.calls 40 A7 c7 l7 30 true w1 (Glob.below HG.out HB1.out) (Kd.C_below HR7.out HB1.out) HC7.out HSM.out).mono ?_); rintro e Wx ⟨rfl, ⟨nd, rfl⟩⟩; have HB2 := Aside0.mk (pw_below_drewN HB1.out nd); generalize w1.drewN nd = w2 at HB2 ⊢))
    go_ret
    exact ⟨rfl, HB2.out⟩
  have k1b : decide (now < 0) = false := decide_eq_false k1
  clear k1
  by_cases k2 : 6311433599 < now
  · have k2b : decide (6311433599 < now) = true := decide_eq_true k2
    clear k2
    go_enter Tryd.func5, Tryd.ntmps5
    go_wp2_with (first | (go_at_call 10; (with_reducible refine (awake_calls w HG.out).mono ?_); rintro e w1 ⟨rfl, hb⟩; have HB1 := Aside0.mk hb; clear hb) | (go_at_call 20; (with_reducible refine (plenumref49_Small.calls 40 A7 c7 l7 30 true w1 (Glob.below HG.out HB1.out) (Kd.C_below HR7.out HB1.out) HC7.out HSM.out).mono ?_); rintro e Wx ⟨rfl, ⟨nd, rfl⟩⟩; have HB2 := Aside0.mk (pw_below_drewN HB1.out nd); generalize w1.drewN nd = w2 at HB2 ⊢))
    go_ret
    exact ⟨rfl, HB2.out⟩
  have k2b : decide (6311433599 < now) = false := decide_eq_false k2
  clear k2
  obtain ⟨segs, e2, hsp, hsr, hl, h0, hne⟩ := split_both message size 0 (by have := HMS.out; omega)
  have HSP := Aside0.mk (show segment_Split.f 66 message size = some (segs, e2) from hsp)
  have HSR := Aside0.mk (show plenumref49_Split.f 66 message size = some (segs, e2) from hsr)
  have HL := Aside0.mk hl
  clear hsp hsr hl h0 hne
  by_cases ke : newE id window timeout retries e2 = 0
  case neg =>
    have HE := Aside0.mk ke
    obtain ⟨er, HER⟩ : ∃ er, Aside0 (newE id window timeout retries e2 = er) := ⟨_, ⟨rfl⟩⟩
    have kb : (er != 0) = true := bne_iff_ne.mpr (by rw [← HER.out]; exact ke)
    have kc : (er == 0) = false := beq_false_of_ne (by rw [← HER.out]; exact ke)
    clear ke
    go_enter Tryd.func5, Tryd.ntmps5
    go_wp2_with (first | (go_at_call 10; (with_reducible refine (awake_calls w HG.out).mono ?_); rintro e w1 ⟨rfl, hb⟩; have HB1 := Aside0.mk hb; clear hb) | (go_at_call 20; (with_reducible refine (plenumref49_Small.calls 40 A7 c7 l7 30 true w1 (Glob.below HG.out HB1.out) (Kd.C_below HR7.out HB1.out) HC7.out HSM.out).mono ?_); rintro e Wx ⟨rfl, ⟨nd, rfl⟩⟩; have HB2 := Aside0.mk (pw_below_drewN HB1.out nd); generalize w1.drewN nd = w2 at HB2 ⊢) | (go_at_call 21; (with_reducible refine (newP_calls 66 id message size window timeout retries now segs e2 w2 (Glob.below HG.out HB2.out) HSP.out HL.out).mono ?_); rintro e w3 ⟨hn, _⟩; obtain ⟨he, hb⟩ := hn HE.out; rw [HER.out] at he; subst he; have HB3 := Aside0.mk (below_step HB2.out hb); clear hn hb) | (go_at_call 22; (with_reducible refine (newR_calls 66 id message size window timeout retries now segs e2 w3 (Glob.below HG.out HB3.out) HSR.out HL.out).mono ?_); rintro e w4 ⟨hn, _⟩; obtain ⟨he, hb⟩ := hn HE.out; rw [HER.out] at he; subst he; have HB4 := Aside0.mk (below_step HB3.out hb); clear hn hb) | (go_at_call 23; (with_reducible refine (same_nil w4 (Glob.below HG.out HB4.out)).mono ?_); rintro e w5 ⟨rfl, hb⟩; have HB5 := Aside0.mk (below_step HB4.out hb); clear hb))
    go_ret
    exact ⟨rfl, HB5.out⟩
  have HE := Aside0.mk ke
  obtain ⟨he2, hw0, hw1, _⟩ := newE_0 ke
  have hok := okS_new (id := id) (timeout := timeout) (retries := retries) (now := now) HL.out hw0 hw1
  obtain ⟨X, HX⟩ : ∃ X, Aside0 (newS id window timeout retries segs now = X) := ⟨_, ⟨rfl⟩⟩
  rw [HX.out] at hok
  obtain ⟨xs0, s0⟩ := X
  have HX0 := HX
  have HOK0 := Aside0.mk hok.1
  have HXL := Aside0.mk hok.2
  obtain ⟨ys0, HYS⟩ : ∃ ys, Aside0 (xs0.map conv = ys) := ⟨_, ⟨rfl⟩⟩
  have HLEN := Aside0.mk (HSB.out rfl).1
  clear ke he2 hw0 hw1 hok
  go_enter Tryd.func5, Tryd.ntmps5
  go_wp2_with (first | (go_at_call 10; (with_reducible refine (awake_calls w HG.out).mono ?_); rintro e w1 ⟨rfl, hb⟩; have HB1 := Aside0.mk hb; clear hb) | (go_at_call 20; (with_reducible refine (plenumref49_Small.calls 40 A7 c7 l7 30 true w1 (Glob.below HG.out HB1.out) (Kd.C_below HR7.out HB1.out) HC7.out HSM.out).mono ?_); rintro e Wx ⟨rfl, ⟨nd, rfl⟩⟩; have HB2 := Aside0.mk (pw_below_drewN HB1.out nd); generalize w1.drewN nd = w2 at HB2 ⊢) | (go_at_call 21; (with_reducible refine (newP_calls 66 id message size window timeout retries now segs e2 w2 (Glob.below HG.out HB2.out) HSP.out HL.out).mono ?_); rintro e w3 ⟨_, hp⟩; obtain ⟨gs, v3, ws, rfl, hv, hs, hb0, hb⟩ := hp HE.out; rw [HX0.out] at hv hs; obtain ⟨A3, ev, _⟩ := Pt.slice hv; subst ev; have HV3 := Aside0.mk (show Pt w2.heap.size w3 (.slice A3 xs0.length xs0.length) xs0 from hv); have HS3 := Aside0.mk hs; have HW3 := Aside0.mk hb0; have HB3 := Aside0.mk hb; have HBB3 := Aside0.mk (below_step (below_step HB2.out hb0) hb); clear hp hv hs hb0 hb) | (go_at_call 22; (with_reducible refine (newR_calls 66 id message size window timeout retries now segs e2 w3 (Glob.below HG.out HBB3.out) HSR.out HL.out).mono ?_); rintro e w4 ⟨_, hp⟩; obtain ⟨gr, v4, wr, rfl, hv, hs, hb0, hb⟩ := hp HE.out; rw [HX0.out] at hv hs; replace hv := Kd.V_mono hv (fun _ hk => okT_le hk (Nat.zero_le _)); replace hv : Kd.V k27 27 w4 0 (okT 27 0 w4) v4 (xs0.map conv) := hv; rw [HYS.out] at hv; have HT4 := Aside0.mk (show Two w ws gs gr s0 s0 w4 from ⟨HS3.out.below (below_step hb0 hb), HB3.out.trans ((below_step hb0 hb).mono HB3.out.size), ⟨wr, hs, hb, Nat.le_trans HB3.out.size hb0.size⟩, Nat.le_trans HB2.out.size HW3.out.size, below_step (below_step HBB3.out hb0) hb⟩); obtain ⟨A4, c4, ev⟩ := Kd.V_slice hv; subst ev; have HV4 := Aside0.mk hv; have HP4 := Aside0.mk (Pt.keep HV3.out (Keep23.of_below (below_step hb0 hb))); clear hp hv hs hb0 hb) | (go_at_call 23; (with_reducible refine (same_eq A3 A4 c4 xs0 ys0 w2.heap.size w4 (Glob.below HG.out HT4.out.base) HP4.out HYS.out HV4.out HXL.out).mono ?_); rintro e w5 ⟨rfl, hb⟩; have HT5 := Aside0.mk (HT4.out.below hb); clear hb))
  go_loopg [18, 21, 23] l7.length (fun kq v18 v21 v23 wr => ∃ (x : Int) (s : Sn), v23 = .int .i64 x ∧ Aside0 (0 ≤ x ∧ x + (kq : Int) = (l7.length : Int)) ∧ Aside0 (OkS s) ∧ Aside0 (Two w ws gs gr s s wr))
  case atStart => exact ⟨0, s0, rfl, ⟨by omega, by omega⟩, HOK0, HT5⟩
  case round =>
    obtain ⟨x, s, rfl, HXX, HOK, HT⟩ := hrel
    clear HB1 HB2 HV3 HS3 HW3 HB3 HBB3 HV4 HP4 HT4 HT5
    by_cases hx : x < (l7.length : Int)
    · have q0 : decide (x < (l7.length : Int)) = true := decide_eq_true hx
      have HLT := Aside0.mk hx
      have hxw : wrap64 (x + 1) = x + 1 := by have := HXX.out; have := HLEN.out; unfold wrap64; omega
      obtain ⟨ad, e7, x0, x1, x2, x3, x4, x5, x6⟩ := at_T54 (Kd.C_below HR7.out HT.out.base) x HXX.out.1 hx
      subst e7
      have p1 : (0 ≤ x) = True := eq_true HXX.out.1
      have p2 : (x < (l7.length : Int)) = True := eq_true hx
      generalize rd_T54 l7 x = m at x0 x1 x2 x3 x4 x5 x6
      by_cases hk : m.f0.f0 = 0
      · have hkb : (m.f0.f0 == 0) = true := by rw [hk]; rfl
        have hok2 := OkS.tick HOK.out m.f1
        obtain ⟨X2, HXS⟩ : ∃ X2, Aside0 (s.tick m.f1 = X2) := ⟨_, ⟨rfl⟩⟩
        rw [HXS.out] at hok2
        obtain ⟨xs, s2⟩ := X2
        have HOK2 := Aside0.mk hok2.1
        have HXL2 := Aside0.mk hok2.2
        obtain ⟨ys, HYS2⟩ : ∃ ys, Aside0 (xs.map conv = ys) := ⟨_, ⟨rfl⟩⟩
        obtain ⟨st, HST⟩ : ∃ st, Aside0 (s2.state = st) := ⟨_, ⟨rfl⟩⟩
        have hst : (st != st) = false := bne_self_eq_false _
        clear hk hok2 hx
        go_wp2_with (first | (go_at_call 24; have hbox := blk_new wr (.cells #[.int .i64 m.f0.f0, .int .i64 m.f0.f1, .int .i64 m.f0.f2, .bool m.f0.f3, .int .i64 m.f0.f4, .string m.f0.f5, .int .i64 m.f1] 54); have hb := below_alloc (Below.refl wr.heap.size wr) (.cells #[.int .i64 m.f0.f0, .int .i64 m.f0.f1, .int .i64 m.f0.f2, .bool m.f0.f3, .int .i64 m.f0.f4, .string m.f0.f5, .int .i64 m.f1] 54); have HT9 := Aside0.mk (HT.out.below hb); clear hb; generalize wr.heap.size = g at hbox ⊢; generalize wr.alloc (.cells #[.int .i64 m.f0.f0, .int .i64 m.f0.f1, .int .i64 m.f0.f2, .bool m.f0.f3, .int .i64 m.f0.f4, .string m.f0.f5, .int .i64 m.f1] 54) = w9 at hbox HT9 ⊢; have HG9 := Aside0.mk hbox; clear hbox x0 x1 x2 x3 x4 x5 x6; (with_reducible refine (Two.ptick HT9.out HOK.out m.f1).mono ?_); rintro e wa ⟨va, rfl, hva, hta, hka⟩; rw [HXS.out] at hva hta; have HTa := Aside0.mk hta; obtain ⟨Aa, ev, _⟩ := Pt.slice hva; subst ev; have HPa := Aside0.mk (show Pt w9.heap.size wa (.slice Aa xs.length xs.length) xs from hva); have HGa := Aside0.mk (hka.keep _ _ _ HG9.out (by decide)); clear hva hta hka; have c0 := (blk_cell HGa.out 0).trans rfl; have c1 := (blk_cell HGa.out 1).trans rfl; have c2 := (blk_cell HGa.out 2).trans rfl; have c3 := (blk_cell HGa.out 3).trans rfl; have c4 := (blk_cell HGa.out 4).trans rfl; have c5 := (blk_cell HGa.out 5).trans rfl; have c6 := (blk_cell HGa.out 6).trans rfl) | (go_at_call 25; (with_reducible refine (Two.rtick HTa.out HOK.out m.f1).mono ?_); rintro e wb ⟨vb, rfl, hvb, htb, hkb⟩; rw [HXS.out] at hvb htb; replace hvb := Kd.V_mono hvb (fun _ hk => okT_le hk (Nat.zero_le _)); replace hvb : Kd.V k27 27 wb 0 (okT 27 0 wb) vb (xs.map conv) := hvb; rw [HYS2.out] at hvb; have HTb := Aside0.mk htb; obtain ⟨Ab, cb, ev⟩ := Kd.V_slice hvb; subst ev; have HVb := Aside0.mk hvb; have HPb := Aside0.mk (HPa.out.keep (hkb.k23 (by decide))); clear hvb htb hkb c0 c1 c2 c3 c4 c5 c6))
        have HTc := Aside0.mk (HTb.out.below (below_drew1 (Below.refl _ _)))
        have HPc := Aside0.mk (HPb.out.keep (Keep23.of_below (below_drew1 (Below.refl _ _))))
        have HVc := Aside0.mk (V27_below HVb.out (below_drew1 (Below.refl _ _)))
        generalize hwd : wb.drew = wd at HTc HPc HVc
        have HTd := HTc
        have HPd := HPc
        have HVd := HVc
        have u5 : wb.drew.cell? ⟨gr, 5, none⟩ = some (.int .i64 st) := by rw [hwd]; exact Two.rstate HTd.out HST.out
        refine start_ (n := 13) (S := fun w' => w'.cell? ⟨gr, 5, none⟩ = some (.int .i64 st)) (ds := []) #[Yn, Yn, Yn, Yn, Yn, Yn, Yn, Yn, Yn, Yn, Yn, Yn, Yn] (by kernel_rfl) rfl rfl (u5) (fun hHeld => ?_)
        rw [hwd] at hHeld ⊢
        refine pure_ (i := 0) (N := some 115) (v := ?_) (a' := ?_) #[Y, Yn, Yn, Yn, Yn, Yn, Yn, Yn, Yn, Yn, Yn, Yn, Yn] rfl rfl (by kernel_rfl) (fun _ _ _ h => h) (Or.inl ⟨by rfl, ?_⟩) ?_ ?_
        rotate_left
        · intro w'
          go_simp
          with_reducible rfl
        rotate_left
        · simp only [Act.put, List.setIfInBounds_toArray, List.set_cons_zero, List.set_cons_succ, i64_w, i32_w]
          rfl
        refine pure_ (i := 1) (N := some 116) (v := ?_) (a' := ?_) #[Y, Y, Yn, Yn, Yn, Yn, Yn, Yn, Yn, Yn, Yn, Yn, Yn] rfl rfl (by kernel_rfl) (fun _ _ _ h => h) (Or.inl ⟨by rfl, ?_⟩) ?_ ?_
        rotate_left
        · intro w'
          go_simp
          with_reducible rfl
        rotate_left
        · simp only [Act.put, List.setIfInBounds_toArray, List.set_cons_zero, List.set_cons_succ, i64_w, i32_w]
          rfl
        refine one_ (i := 2) (N := some 117) #[Y, Y, Y, Yn, Yn, Yn, Yn, Yn, Yn, Yn, Yn, Yn, Yn] rfl rfl (by kernel_rfl) (by decide) (fun K hK => ?_)
        refine goes_ Tryd.func23 (by kernel_rfl) rfl #[.slice Aa xs.length xs.length, .slice Ab ys.length cb] (by rfl) rfl rfl (by simp only [List.map_toArray, List.map_cons, List.map_nil]; rfl) ?_
        with_reducible refine (same_eq Aa Ab cb xs ys w9.heap.size _ (Glob.below HG.out HTd.out.base) HPd.out HYS2.out HVd.out HXL2.out).mono ?_
        rintro e we ⟨rfl, hb⟩
        refine ⟨_, rfl, ?_⟩
        have HTe := Aside0.mk (HTd.out.below hb)
        have hbe := Aside0.mk hb
        clear hb
        refine hK.out _ _ (pw_cell_below hbe.out hHeld) (fun hHeld => ?_)
        clear hK K
        refine norm_ (a' := ?_) ?_ ?_
        rotate_left
        · show Act.put _ (some 117) _ = _
          simp only [Act.put, List.setIfInBounds_toArray, List.set_cons_zero, List.set_cons_succ, i64_w, i32_w]
          rfl
        refine pure_ (i := 3) (N := some 118) (v := ?_) (a' := ?_) #[Y, Y, Y, Y, Yn, Yn, Yn, Yn, Yn, Yn, Yn, Yn, Yn] rfl rfl (by kernel_rfl) (fun _ _ _ h => h) (Or.inl ⟨by rfl, ?_⟩) ?_ ?_
        rotate_left
        · intro w'
          go_simp
          with_reducible rfl
        rotate_left
        · simp only [Act.put, List.setIfInBounds_toArray, List.set_cons_zero, List.set_cons_succ, i64_w, i32_w]
          rfl
        refine pure_ (i := 4) (N := some 119) (v := ?_) (a' := ?_) #[Y, Y, Y, Y, Y, Yn, Yn, Yn, Yn, Yn, Yn, Yn, Yn] rfl rfl (by kernel_rfl) (fun _ _ _ h => h) (Or.inl ⟨by rfl, ?_⟩) ?_ ?_
        rotate_left
        · intro w'
          go_simp
          with_reducible rfl
        rotate_left
        · simp only [Act.put, List.setIfInBounds_toArray, List.set_cons_zero, List.set_cons_succ, i64_w, i32_w]
          rfl
        refine pure_ (i := 5) (N := some 120) (v := ?_) (a' := ?_) #[Y, Y, Y, Y, Y, Y, Yn, Yn, Yn, Yn, Yn, Yn, Yn] rfl rfl (by kernel_rfl) (fun _ _ _ h => h) (Or.inl ⟨by rfl, ?_⟩) ?_ ?_
        rotate_left
        · intro w'
          go_simp
          with_reducible rfl
        rotate_left
        · simp only [Act.put, List.setIfInBounds_toArray, List.set_cons_zero, List.set_cons_succ, i64_w, i32_w]
          rfl
        refine pure_ (i := 7) (N := some 122) (v := ?_) (a' := ?_) #[Y, Y, Y, Y, Y, Y, Yn, Y, Yn, Yn, Yn, Yn, Yn] rfl rfl (by kernel_rfl) (fun _ _ _ h => h) (Or.inl ⟨by rfl, ?_⟩) ?_ ?_
        rotate_left
        · intro w'
          go_simp
          with_reducible rfl
        rotate_left
        · simp only [Act.put, List.setIfInBounds_toArray, List.set_cons_zero, List.set_cons_succ, i64_w, i32_w]
          rfl
        refine pure_ (i := 8) (N := some 123) (v := ?_) (a' := ?_) #[Y, Y, Y, Y, Y, Y, Yn, Y, Y, Yn, Yn, Yn, Yn] rfl rfl (by kernel_rfl) (fun _ _ _ h => h) (Or.inl ⟨by rfl, ?_⟩) ?_ ?_
        rotate_left
        · intro w'
          go_simp
          with_reducible rfl
        rotate_left
        · simp only [Act.put, List.setIfInBounds_toArray, List.set_cons_zero, List.set_cons_succ, i64_w, i32_w]
          rfl
        refine pure_ (i := 9) (N := some 124) (v := ?_) (a' := ?_) #[Y, Y, Y, Y, Y, Y, Yn, Y, Y, Y, Yn, Yn, Yn] rfl rfl (by kernel_rfl) (fun _ _ _ h => h) (Or.inl ⟨by rfl, ?_⟩) ?_ ?_
        rotate_left
        · intro w'
          go_simp
          with_reducible rfl
        rotate_left
        · simp only [Act.put, List.setIfInBounds_toArray, List.set_cons_zero, List.set_cons_succ, i64_w, i32_w]
          rfl
        refine take_ (i := 10) (N := some 125) (v := ?_) (a' := ?_) #[Y, Y, Y, Y, Y, Y, Yn, Y, Y, Y, Y, Yn, Yn] rfl rfl (by kernel_rfl) (fun _ _ _ h => h) (Or.inl ⟨by rfl, ?_⟩) hHeld ?_ ?_
        rotate_left
        · intro w' s0
          go_simp
          with_reducible rfl
        rotate_left
        · simp only [Act.put, List.setIfInBounds_toArray, List.set_cons_zero, List.set_cons_succ, i64_w, i32_w]
          rfl
        refine one_ (i := 6) (N := some 121) #[Y, Y, Y, Y, Y, Y, Y, Y, Y, Y, Y, Yn, Yn] rfl rfl (by kernel_rfl) (by decide) (fun K hK => ?_)
        refine goes_ Tryd.func29 (by kernel_rfl) rfl #[.pointer (some ⟨gs, 0, none⟩)] (by rfl) rfl rfl (by simp only [List.map_toArray, List.map_cons, List.map_nil]; rfl) ?_
        with_reducible refine (state_eq gs s2 st ws _ HTe.out.snd HST.out).mono ?_
        rintro e wf ⟨rfl, rfl⟩
        refine ⟨_, rfl, ?_⟩
        refine hK.out _ _ (hHeld) (fun hHeld => ?_)
        clear hK K
        refine norm_ (a' := ?_) ?_ ?_
        rotate_left
        · show Act.put _ (some 121) _ = _
          simp only [Act.put, List.setIfInBounds_toArray, List.set_cons_zero, List.set_cons_succ, i64_w, i32_w]
          rfl
        refine pure_ (i := 11) (N := some 126) (v := ?_) (a' := ?_) #[Y, Y, Y, Y, Y, Y, Y, Y, Y, Y, Y, Y, Yn] rfl rfl (by kernel_rfl) (fun _ _ _ h => h) (Or.inl ⟨by rfl, ?_⟩) ?_ ?_
        rotate_left
        · intro w'
          go_simp
          with_reducible rfl
        rotate_left
        · simp only [Act.put, List.setIfInBounds_toArray, List.set_cons_zero, List.set_cons_succ, i64_w, i32_w]
          rfl
        refine pure_ (i := 12) (N := some 127) (v := ?_) (a' := ?_) #[Y, Y, Y, Y, Y, Y, Y, Y, Y, Y, Y, Y, Y] rfl rfl (by kernel_rfl) (fun _ _ _ h => h) (Or.inl ⟨by rfl, ?_⟩) ?_ ?_
        rotate_left
        · intro w'
          go_simp
          with_reducible rfl
        rotate_left
        · simp only [Act.put, List.setIfInBounds_toArray, List.set_cons_zero, List.set_cons_succ, i64_w, i32_w]
          rfl
        refine done_ (by kernel_rfl) ?_
        go_wp2
        go_roundg (gk - 1)
        case measure => have h1 := HXX.out; have h2 := HLT.out; omega
        case rel => exact ⟨x + 1, s2, (by first | rfl | (rw [hxw])), ⟨by have h1 := HXX.out; have h2 := HLT.out; omega⟩, HOK2, HTe⟩
      · have hkb : (m.f0.f0 == 0) = false := beq_false_of_ne hk
        have hok2 := OkS.handle HOK.out m.f0.f0 m.f0.f1 m.f0.f2 m.f1
        obtain ⟨X2, HXS⟩ : ∃ X2, Aside0 (s.handle m.f0.f0 m.f0.f1 m.f0.f2 m.f1 = X2) := ⟨_, ⟨rfl⟩⟩
        rw [HXS.out] at hok2
        obtain ⟨xs, s2⟩ := X2
        have HOK2 := Aside0.mk hok2.1
        have HXL2 := Aside0.mk hok2.2
        obtain ⟨ys, HYS2⟩ : ∃ ys, Aside0 (xs.map conv = ys) := ⟨_, ⟨rfl⟩⟩
        obtain ⟨st, HST⟩ : ∃ st, Aside0 (s2.state = st) := ⟨_, ⟨rfl⟩⟩
        have hst : (st != st) = false := bne_self_eq_false _
        clear hk hok2 hx
        go_wp2
        have hbox := blk_new wr (.cells #[.int .i64 m.f0.f0, .int .i64 m.f0.f1, .int .i64 m.f0.f2, .bool m.f0.f3, .int .i64 m.f0.f4, .string m.f0.f5, .int .i64 m.f1] 54)
        have hb := below_alloc (Below.refl wr.heap.size wr) (.cells #[.int .i64 m.f0.f0, .int .i64 m.f0.f1, .int .i64 m.f0.f2, .bool m.f0.f3, .int .i64 m.f0.f4, .string m.f0.f5, .int .i64 m.f1] 54)
        have HT9 := Aside0.mk (HT.out.below hb)
        clear hb
        generalize wr.heap.size = g at hbox ⊢
        generalize wr.alloc (.cells #[.int .i64 m.f0.f0, .int .i64 m.f0.f1, .int .i64 m.f0.f2, .bool m.f0.f3, .int .i64 m.f0.f4, .string m.f0.f5, .int .i64 m.f1] 54) = w9 at hbox HT9 ⊢
        have HG9 := Aside0.mk hbox
        clear hbox x0 x1 x2 x3 x4 x5 x6
        have HTg := Aside0.mk (HT9.out.below (below_drew1 (Below.refl _ _)))
        have HGg := Aside0.mk (blk_drew HG9.out)
        have c0 := (blk_cell HGg.out 0).trans rfl
        have c1 := (blk_cell HGg.out 1).trans rfl
        have c2 := (blk_cell HGg.out 2).trans rfl
        have c3 := (blk_cell HGg.out 3).trans rfl
        have c4 := (blk_cell HGg.out 4).trans rfl
        have c5 := (blk_cell HGg.out 5).trans rfl
        have c6 := (blk_cell HGg.out 6).trans rfl
        generalize hwg : w9.drew = wg at HTg HGg
        refine start_ (n := 8) (S := fun w' => w'.cell? ⟨g, 0, none⟩ = some (.int .i64 m.f0.f0) ∧ w'.cell? ⟨g, 1, none⟩ = some (.int .i64 m.f0.f1) ∧ w'.cell? ⟨g, 2, none⟩ = some (.int .i64 m.f0.f2) ∧ w'.cell? ⟨g, 3, none⟩ = some (.bool m.f0.f3) ∧ w'.cell? ⟨g, 4, none⟩ = some (.int .i64 m.f0.f4) ∧ w'.cell? ⟨g, 5, none⟩ = some (.string m.f0.f5) ∧ w'.cell? ⟨g, 6, none⟩ = some (.int .i64 m.f1)) (ds := []) #[Yn, Yn, Yn, Yn, Yn, Yn, Yn, Yn] (by kernel_rfl) rfl rfl ⟨c0, c1, c2, c3, c4, c5, c6⟩ (fun hHeld => ?_)
        rw [hwg] at hHeld ⊢
        clear c0 c1 c2 c3 c4 c5 c6
        refine pure_ (i := 0) (N := some 102) (v := ?_) (a' := ?_) #[Y, Yn, Yn, Yn, Yn, Yn, Yn, Yn] rfl rfl (by kernel_rfl) (fun _ _ _ h => h) (Or.inl ⟨by rfl, ?_⟩) ?_ ?_
        rotate_left
        · intro w'
          go_simp
          with_reducible rfl
        rotate_left
        · simp only [Act.put, List.setIfInBounds_toArray, List.set_cons_zero, List.set_cons_succ, i64_w, i32_w]
          rfl
        refine pure_ (i := 1) (N := some 103) (v := ?_) (a' := ?_) #[Y, Y, Yn, Yn, Yn, Yn, Yn, Yn] rfl rfl (by kernel_rfl) (fun _ _ _ h => h) (Or.inl ⟨by rfl, ?_⟩) ?_ ?_
        rotate_left
        · intro w'
          go_simp
          with_reducible rfl
        rotate_left
        · simp only [Act.put, List.setIfInBounds_toArray, List.set_cons_zero, List.set_cons_succ, i64_w, i32_w]
          rfl
        refine pure_ (i := 4) (N := some 106) (v := ?_) (a' := ?_) #[Y, Y, Yn, Yn, Y, Yn, Yn, Yn] rfl rfl (by kernel_rfl) (fun _ _ _ h => h) (Or.inl ⟨by rfl, ?_⟩) ?_ ?_
        rotate_left
        · intro w'
          go_simp
          with_reducible rfl
        rotate_left
        · simp only [Act.put, List.setIfInBounds_toArray, List.set_cons_zero, List.set_cons_succ, i64_w, i32_w]
          rfl
        refine take_ (i := 2) (N := some 104) (v := ?_) (a' := ?_) #[Y, Y, Y, Yn, Y, Yn, Yn, Yn] rfl rfl (by kernel_rfl) (fun _ _ _ h => h) (Or.inl ⟨by rfl, ?_⟩) hHeld ?_ ?_
        rotate_left
        · rintro w' ⟨s0, s1, s2, s3, s4, s5, s6⟩
          go_simp
          with_reducible rfl
        rotate_left
        · simp only [Act.put, List.setIfInBounds_toArray, List.set_cons_zero, List.set_cons_succ, i64_w, i32_w]
          rfl
        refine take_ (i := 5) (N := some 107) (v := ?_) (a' := ?_) #[Y, Y, Y, Yn, Y, Y, Yn, Yn] rfl rfl (by kernel_rfl) (fun _ _ _ h => h) (Or.inl ⟨by rfl, ?_⟩) hHeld ?_ ?_
        rotate_left
        · rintro w' ⟨s0, s1, s2, s3, s4, s5, s6⟩
          go_simp
          with_reducible rfl
        rotate_left
        · simp only [Act.put, List.setIfInBounds_toArray, List.set_cons_zero, List.set_cons_succ, i64_w, i32_w]
          rfl
        refine one_ (i := 3) (N := some 105) #[Y, Y, Y, Y, Y, Y, Yn, Yn] rfl rfl (by kernel_rfl) (by decide) (fun K hK => ?_)
        refine goes_ Tryd.func27 (by kernel_rfl) rfl #[.agg #[.int .i64 m.f0.f0, .int .i64 m.f0.f1, .int .i64 m.f0.f2, .bool m.f0.f3, .int .i64 m.f0.f4, .string m.f0.f5]] (by rfl) rfl rfl (by simp only [List.map_toArray, List.map_cons, List.map_nil]; rfl) ?_
        with_reducible refine (plenumlaw49_back.calls m.f0.f0 m.f0.f1 m.f0.f2 m.f0.f3 m.f0.f4 m.f0.f5 m.f0.f0 m.f0.f1 m.f0.f2 m.f0.f3 m.f0.f4 m.f0.f5 _ (Glob.below HG.out HTg.out.base) rfl).mono ?_
        rintro e wh ⟨rfl, hb⟩
        refine ⟨_, rfl, ?_⟩
        have HTh := Aside0.mk (HTg.out.below hb)
        have HGh := Aside0.mk (blk_below HGg.out hb)
        have hbh := Aside0.mk hb
        clear hb
        refine hK.out _ _ ⟨pw_cell_below hbh.out hHeld.1, pw_cell_below hbh.out hHeld.2.1, pw_cell_below hbh.out hHeld.2.2.1, pw_cell_below hbh.out hHeld.2.2.2.1, pw_cell_below hbh.out hHeld.2.2.2.2.1, pw_cell_below hbh.out hHeld.2.2.2.2.2.1, pw_cell_below hbh.out hHeld.2.2.2.2.2.2⟩ (fun hHeld => ?_)
        clear hK K
        refine norm_ (a' := ?_) ?_ ?_
        rotate_left
        · show Act.put _ (some 105) _ = _
          simp only [Act.put, List.setIfInBounds_toArray, List.set_cons_zero, List.set_cons_succ, i64_w, i32_w]
          rfl
        refine one_ (i := 6) (N := some 108) #[Y, Y, Y, Y, Y, Y, Y, Yn] rfl rfl (by kernel_rfl) (by decide) (fun K hK => ?_)
        refine goes_ Tryd.func26 (by kernel_rfl) rfl #[.pointer (some ⟨gs, 0, none⟩), .agg #[.int .i64 m.f0.f0, .int .i64 m.f0.f1, .int .i64 m.f0.f2, .bool m.f0.f3, .int .i64 m.f0.f4, .string m.f0.f5], .int .i64 m.f1] (by rfl) rfl rfl (by simp only [List.map_toArray, List.map_cons, List.map_nil]; rfl) ?_
        with_reducible refine (Two.phandle HTh.out HOK.out m.f0.f0 m.f0.f1 m.f0.f2 m.f0.f3 m.f0.f4 m.f0.f5 m.f1).mono ?_
        rintro e wa ⟨va, rfl, hva, hta, hka⟩
        refine ⟨_, rfl, ?_⟩
        rw [HXS.out] at hva hta
        have HTa := Aside0.mk hta
        obtain ⟨Aa, ev, _⟩ := Pt.slice hva
        subst ev
        have HPa := Aside0.mk (show Pt wh.heap.size wa (.slice Aa xs.length xs.length) xs from hva)
        have HGa := Aside0.mk (hka.keep _ _ _ HGh.out (by decide))
        clear hva hta hka
        refine hK.out _ _ ⟨(blk_cell HGa.out 0).trans rfl, (blk_cell HGa.out 1).trans rfl, (blk_cell HGa.out 2).trans rfl, (blk_cell HGa.out 3).trans rfl, (blk_cell HGa.out 4).trans rfl, (blk_cell HGa.out 5).trans rfl, (blk_cell HGa.out 6).trans rfl⟩ (fun hHeld => ?_)
        clear hK K
        refine norm_ (a' := ?_) ?_ ?_
        rotate_left
        · show Act.put _ (some 108) _ = _
          simp only [Act.put, List.setIfInBounds_toArray, List.set_cons_zero, List.set_cons_succ, i64_w, i32_w]
          rfl
        refine pure_ (i := 7) (N := some 18) (v := ?_) (a' := ?_) #[Y, Y, Y, Y, Y, Y, Y, Y] rfl rfl (by kernel_rfl) (fun _ _ _ h => h) (Or.inl ⟨by rfl, ?_⟩) ?_ ?_
        rotate_left
        · intro w'
          go_simp
          with_reducible rfl
        rotate_left
        · simp only [Act.put, List.setIfInBounds_toArray, List.set_cons_zero, List.set_cons_succ, i64_w, i32_w]
          rfl
        refine done_ (by kernel_rfl) ?_
        clear hHeld
        have c0 := (blk_cell HGa.out 0).trans rfl
        have c1 := (blk_cell HGa.out 1).trans rfl
        have c2 := (blk_cell HGa.out 2).trans rfl
        have c3 := (blk_cell HGa.out 3).trans rfl
        have c4 := (blk_cell HGa.out 4).trans rfl
        have c5 := (blk_cell HGa.out 5).trans rfl
        have c6 := (blk_cell HGa.out 6).trans rfl
        go_wp2_with (first | (go_at_call 28; (with_reducible refine (Two.rhandle HTa.out HOK.out m.f0.f0 m.f0.f1 m.f0.f2 m.f0.f3 m.f0.f4 m.f0.f5 m.f1).mono ?_); rintro e wb ⟨vb, rfl, hvb, htb, hkb⟩; rw [HXS.out] at hvb htb; replace hvb := Kd.V_mono hvb (fun _ hk => okT_le hk (Nat.zero_le _)); replace hvb : Kd.V k27 27 wb 0 (okT 27 0 wb) vb (xs.map conv) := hvb; rw [HYS2.out] at hvb; have HTb := Aside0.mk htb; obtain ⟨Ab, cb, ev⟩ := Kd.V_slice hvb; subst ev; have HVb := Aside0.mk hvb; have HPb := Aside0.mk (HPa.out.keep (hkb.k23 (by decide))); clear hvb htb hkb c0 c1 c2 c3 c4 c5 c6))
        have HTc := Aside0.mk (HTb.out.below (below_drew1 (Below.refl _ _)))
        have HPc := Aside0.mk (HPb.out.keep (Keep23.of_below (below_drew1 (Below.refl _ _))))
        have HVc := Aside0.mk (V27_below HVb.out (below_drew1 (Below.refl _ _)))
        generalize hwd : wb.drew = wd at HTc HPc HVc
        have HTd := HTc
        have HPd := HPc
        have HVd := HVc
        have u5 : wb.drew.cell? ⟨gr, 5, none⟩ = some (.int .i64 st) := by rw [hwd]; exact Two.rstate HTd.out HST.out
        refine start_ (n := 13) (S := fun w' => w'.cell? ⟨gr, 5, none⟩ = some (.int .i64 st)) (ds := []) #[Yn, Yn, Yn, Yn, Yn, Yn, Yn, Yn, Yn, Yn, Yn, Yn, Yn] (by kernel_rfl) rfl rfl (u5) (fun hHeld => ?_)
        rw [hwd] at hHeld ⊢
        refine pure_ (i := 0) (N := some 115) (v := ?_) (a' := ?_) #[Y, Yn, Yn, Yn, Yn, Yn, Yn, Yn, Yn, Yn, Yn, Yn, Yn] rfl rfl (by kernel_rfl) (fun _ _ _ h => h) (Or.inl ⟨by rfl, ?_⟩) ?_ ?_
        rotate_left
        · intro w'
          go_simp
          with_reducible rfl
        rotate_left
        · simp only [Act.put, List.setIfInBounds_toArray, List.set_cons_zero, List.set_cons_succ, i64_w, i32_w]
          rfl
        refine pure_ (i := 1) (N := some 116) (v := ?_) (a' := ?_) #[Y, Y, Yn, Yn, Yn, Yn, Yn, Yn, Yn, Yn, Yn, Yn, Yn] rfl rfl (by kernel_rfl) (fun _ _ _ h => h) (Or.inl ⟨by rfl, ?_⟩) ?_ ?_
        rotate_left
        · intro w'
          go_simp
          with_reducible rfl
        rotate_left
        · simp only [Act.put, List.setIfInBounds_toArray, List.set_cons_zero, List.set_cons_succ, i64_w, i32_w]
          rfl
        refine one_ (i := 2) (N := some 117) #[Y, Y, Y, Yn, Yn, Yn, Yn, Yn, Yn, Yn, Yn, Yn, Yn] rfl rfl (by kernel_rfl) (by decide) (fun K hK => ?_)
        refine goes_ Tryd.func23 (by kernel_rfl) rfl #[.slice Aa xs.length xs.length, .slice Ab ys.length cb] (by rfl) rfl rfl (by simp only [List.map_toArray, List.map_cons, List.map_nil]; rfl) ?_
        with_reducible refine (same_eq Aa Ab cb xs ys wh.heap.size _ (Glob.below HG.out HTd.out.base) HPd.out HYS2.out HVd.out HXL2.out).mono ?_
        rintro e we ⟨rfl, hb⟩
        refine ⟨_, rfl, ?_⟩
        have HTe := Aside0.mk (HTd.out.below hb)
        have hbe := Aside0.mk hb
        clear hb
        refine hK.out _ _ (pw_cell_below hbe.out hHeld) (fun hHeld => ?_)
        clear hK K
        refine norm_ (a' := ?_) ?_ ?_
        rotate_left
        · show Act.put _ (some 117) _ = _
          simp only [Act.put, List.setIfInBounds_toArray, List.set_cons_zero, List.set_cons_succ, i64_w, i32_w]
          rfl
        refine pure_ (i := 3) (N := some 118) (v := ?_) (a' := ?_) #[Y, Y, Y, Y, Yn, Yn, Yn, Yn, Yn, Yn, Yn, Yn, Yn] rfl rfl (by kernel_rfl) (fun _ _ _ h => h) (Or.inl ⟨by rfl, ?_⟩) ?_ ?_
        rotate_left
        · intro w'
          go_simp
          with_reducible rfl
        rotate_left
        · simp only [Act.put, List.setIfInBounds_toArray, List.set_cons_zero, List.set_cons_succ, i64_w, i32_w]
          rfl
        refine pure_ (i := 4) (N := some 119) (v := ?_) (a' := ?_) #[Y, Y, Y, Y, Y, Yn, Yn, Yn, Yn, Yn, Yn, Yn, Yn] rfl rfl (by kernel_rfl) (fun _ _ _ h => h) (Or.inl ⟨by rfl, ?_⟩) ?_ ?_
        rotate_left
        · intro w'
          go_simp
          with_reducible rfl
        rotate_left
        · simp only [Act.put, List.setIfInBounds_toArray, List.set_cons_zero, List.set_cons_succ, i64_w, i32_w]
          rfl
        refine pure_ (i := 5) (N := some 120) (v := ?_) (a' := ?_) #[Y, Y, Y, Y, Y, Y, Yn, Yn, Yn, Yn, Yn, Yn, Yn] rfl rfl (by kernel_rfl) (fun _ _ _ h => h) (Or.inl ⟨by rfl, ?_⟩) ?_ ?_
        rotate_left
        · intro w'
          go_simp
          with_reducible rfl
        rotate_left
        · simp only [Act.put, List.setIfInBounds_toArray, List.set_cons_zero, List.set_cons_succ, i64_w, i32_w]
          rfl
        refine pure_ (i := 7) (N := some 122) (v := ?_) (a' := ?_) #[Y, Y, Y, Y, Y, Y, Yn, Y, Yn, Yn, Yn, Yn, Yn] rfl rfl (by kernel_rfl) (fun _ _ _ h => h) (Or.inl ⟨by rfl, ?_⟩) ?_ ?_
        rotate_left
        · intro w'
          go_simp
          with_reducible rfl
        rotate_left
        · simp only [Act.put, List.setIfInBounds_toArray, List.set_cons_zero, List.set_cons_succ, i64_w, i32_w]
          rfl
        refine pure_ (i := 8) (N := some 123) (v := ?_) (a' := ?_) #[Y, Y, Y, Y, Y, Y, Yn, Y, Y, Yn, Yn, Yn, Yn] rfl rfl (by kernel_rfl) (fun _ _ _ h => h) (Or.inl ⟨by rfl, ?_⟩) ?_ ?_
        rotate_left
        · intro w'
          go_simp
          with_reducible rfl
        rotate_left
        · simp only [Act.put, List.setIfInBounds_toArray, List.set_cons_zero, List.set_cons_succ, i64_w, i32_w]
          rfl
        refine pure_ (i := 9) (N := some 124) (v := ?_) (a' := ?_) #[Y, Y, Y, Y, Y, Y, Yn, Y, Y, Y, Yn, Yn, Yn] rfl rfl (by kernel_rfl) (fun _ _ _ h => h) (Or.inl ⟨by rfl, ?_⟩) ?_ ?_
        rotate_left
        · intro w'
          go_simp
          with_reducible rfl
        rotate_left
        · simp only [Act.put, List.setIfInBounds_toArray, List.set_cons_zero, List.set_cons_succ, i64_w, i32_w]
          rfl
        refine take_ (i := 10) (N := some 125) (v := ?_) (a' := ?_) #[Y, Y, Y, Y, Y, Y, Yn, Y, Y, Y, Y, Yn, Yn] rfl rfl (by kernel_rfl) (fun _ _ _ h => h) (Or.inl ⟨by rfl, ?_⟩) hHeld ?_ ?_
        rotate_left
        · intro w' s0
          go_simp
          with_reducible rfl
        rotate_left
        · simp only [Act.put, List.setIfInBounds_toArray, List.set_cons_zero, List.set_cons_succ, i64_w, i32_w]
          rfl
        refine one_ (i := 6) (N := some 121) #[Y, Y, Y, Y, Y, Y, Y, Y, Y, Y, Y, Yn, Yn] rfl rfl (by kernel_rfl) (by decide) (fun K hK => ?_)
        refine goes_ Tryd.func29 (by kernel_rfl) rfl #[.pointer (some ⟨gs, 0, none⟩)] (by rfl) rfl rfl (by simp only [List.map_toArray, List.map_cons, List.map_nil]; rfl) ?_
        with_reducible refine (state_eq gs s2 st ws _ HTe.out.snd HST.out).mono ?_
        rintro e wf ⟨rfl, rfl⟩
        refine ⟨_, rfl, ?_⟩
        refine hK.out _ _ (hHeld) (fun hHeld => ?_)
        clear hK K
        refine norm_ (a' := ?_) ?_ ?_
        rotate_left
        · show Act.put _ (some 121) _ = _
          simp only [Act.put, List.setIfInBounds_toArray, List.set_cons_zero, List.set_cons_succ, i64_w, i32_w]
          rfl
        refine pure_ (i := 11) (N := some 126) (v := ?_) (a' := ?_) #[Y, Y, Y, Y, Y, Y, Y, Y, Y, Y, Y, Y, Yn] rfl rfl (by kernel_rfl) (fun _ _ _ h => h) (Or.inl ⟨by rfl, ?_⟩) ?_ ?_
        rotate_left
        · intro w'
          go_simp
          with_reducible rfl
        rotate_left
        · simp only [Act.put, List.setIfInBounds_toArray, List.set_cons_zero, List.set_cons_succ, i64_w, i32_w]
          rfl
        refine pure_ (i := 12) (N := some 127) (v := ?_) (a' := ?_) #[Y, Y, Y, Y, Y, Y, Y, Y, Y, Y, Y, Y, Y] rfl rfl (by kernel_rfl) (fun _ _ _ h => h) (Or.inl ⟨by rfl, ?_⟩) ?_ ?_
        rotate_left
        · intro w'
          go_simp
          with_reducible rfl
        rotate_left
        · simp only [Act.put, List.setIfInBounds_toArray, List.set_cons_zero, List.set_cons_succ, i64_w, i32_w]
          rfl
        refine done_ (by kernel_rfl) ?_
        go_wp2
        go_roundg (gk - 1)
        case measure => have h1 := HXX.out; have h2 := HLT.out; omega
        case rel => exact ⟨x + 1, s2, (by first | rfl | (rw [hxw])), ⟨by have h1 := HXX.out; have h2 := HLT.out; omega⟩, HOK2, HTe⟩
    · have q0 : decide (x < (l7.length : Int)) = false := decide_eq_false hx
      clear hx
      go_wp2
      go_ret
      exact ⟨rfl, HT.out.base⟩
def plenumlaw49_SegmentSends.f (k : Nat) (a0 : Int) (a1 : ByteArray) (a2 : Int) (a3 : Int) (a4 : Int) (a5 : Int) (a6 : Int) (l7 : List (S54)) : Option (Bool) := some true
theorem plenumlaw49_SegmentSends.calls (k : Nat) (a0 : Int) (a1 : ByteArray) (a2 : Int) (a3 : Int) (a4 : Int) (a5 : Int) (a6 : Int) (A7 : Option Addr) (c7 : Nat) (l7 : List (S54)) (r : Bool) (w : World) (hG : Glob w) (hr7 : Kd.C k54 w A7 l7.length l7) (hc7 : l7.length ≤ c7) (h : plenumlaw49_SegmentSends.f k a0 a1 a2 a3 a4 a5 a6 l7 = some r) :
    Calls Tryd.prog 5 #[.int .i64 a0, .string a1, .int .i64 a2, .int .i64 a3, .int .i64 a4, .int .i64 a5, .int .i64 a6, .slice A7 l7.length c7] w fun e w' => e = .returned (.bool r) ∧ Below w.heap.size w w' := by
  injection h with h
  subst h
  exact sends_walk a0 a1 a2 a3 a4 a5 a6 A7 c7 l7 w hG hr7 hc7
end Go.Proofs.YtbgabhknmpbgiaaDoor.S
end
section
namespace Go.Proofs.YtbgabhknmpbgiaaDoor.Opn
open Go.RowKit Go.Proofs.YtbgabhknmpbgiaaDoorW.PrintWords
def Opn (P : Program) (t : TypeId) {α : Type} (d : Kd α) (V : α → Prop) : Prop :=
  ∀ (H : Type) (enc : TypeId × Value → H) (w : World) (fuel : Nat) (cs : List Value) (x : DataW H × List MemPlace),
    DataW.trod enc P w 0 (fun _ => true) true fuel t cs = some x → (∀ n ∈ DataW.weights P t x.1, n ≤ 140737488351232) → ∃ y, d.K w y cs ∧ V y
theorem opn_int {P : Program} {t : TypeId} {k : IntKind} (ht : P.underlying t = some (.int k)) : Opn P t (Kd.int k) (fun y => (Lit.int k y).wf = true) := by
  intro H enc w fuel cs x h _
  obtain ⟨n, rfl, _, hw⟩ := DataW.trod_int ht h
  exact ⟨n, rfl, hw⟩
theorem opn_bool {P : Program} {t : TypeId} (ht : P.underlying t = some .bool) : Opn P t Kd.bool (fun _ => True) := by
  intro H enc w fuel cs x h _
  obtain ⟨b, rfl, _⟩ := DataW.trod_bool ht h
  exact ⟨b, rfl, trivial⟩
theorem opn_string {P : Program} {t : TypeId} (ht : P.underlying t = some .string) : Opn P t Kd.string (fun y => y.size ≤ 140737488351232) := by
  intro H enc w fuel cs x h hw
  obtain ⟨s, rfl, rfl, _⟩ := DataW.trod_string ht h
  refine ⟨s, rfl, ?_⟩
  have := hw s.data.toList.length (by simp [DataW.weights])
  rw [Array.length_toList] at this
  exact this
theorem weights_all {H : Type} {P : Program} {e : TypeId} {d : DataW H} {n : Nat} (hn : n ∈ DataW.weights P e d) : ∀ {l : List (DataW H)}, d ∈ l → n ∈ DataW.weightsAll P e l
  | [], h => by simp at h
  | a :: r, h => by
    simp only [DataW.weightsAll, List.mem_append]
    rcases List.mem_cons.1 h with rfl | h
    · exact .inl hn
    · exact .inr (weights_all hn h)
theorem list_of {α : Type} (Q : Nat → α → Prop) : ∀ n, (∀ i, i < n → ∃ y, Q i y) → ∃ l : List α, l.length = n ∧ ∀ i y, l[i]? = some y → Q i y
  | 0, _ => ⟨[], rfl, fun i y h => by simp at h⟩
  | n + 1, h => by
    obtain ⟨l, hl, hq⟩ := list_of Q n (fun i hi => h i (by omega))
    obtain ⟨y, hy⟩ := h n (by omega)
    refine ⟨l ++ [y], by simp [hl], fun i z hz => ?_⟩
    rcases Nat.lt_or_ge i n with hi | hi
    · rw [List.getElem?_append_left (by omega)] at hz
      exact hq i z hz
    · have : i = n := by
        have := (List.getElem?_eq_some_iff.1 hz).1
        simp [hl] at this
        omega
      subst this
      rw [List.getElem?_append_right (by omega), hl, Nat.sub_self] at hz
      simp at hz
      subst hz
      exact hy
theorem opn_slice {P : Program} {t e : TypeId} {α : Type} {d : Kd α} {V : α → Prop} {B : Nat} (ht : P.underlying t = some (.slice e)) (hs : P.cellsOf e = d.sz) (hB : P.bytesOf e = B) (he : Opn P e d V) :
    Opn P t (Kd.slice e d) (fun xs => xs.length * B ≤ 140737488351232 ∧ ∀ x ∈ xs, V x) := by
  intro H enc w fuel cs x h hw
  rcases Go.Deep.open_slice ht h with ⟨rfl, rfl⟩ | ⟨a, len, cap, m, n, D, Pl, rfl, _, hl, hm, hmm, rfl, hi⟩
  · exact ⟨[], ⟨none, 0, rfl, by simp, rfl, by simp, fun hn => absurd hn (by simp)⟩, by simp, by simp⟩
  have hmm' : m = cap := by simpa using hmm
  subst hmm'
  have hw' : (len + (m - len)) * B ≤ 140737488351232 := by
    have := hw ((len + (m - len)) * B) (by simp [DataW.weights, ht, hB])
    exact this
  obtain ⟨l, hlen, hq⟩ := list_of (fun i y => ∃ c, w.cells? 0 (a.add (i * P.cellsOf e)) (P.cellsOf e) = some c ∧ d.K w y c ∧ V y) len (fun i hil => by
    obtain ⟨c, hc, htr⟩ := hi i (by omega)
    obtain ⟨y, hy, hV⟩ := he H enc w n c _ htr (fun k hk => hw k (by
      simp only [DataW.weights, ht, List.mem_cons, List.mem_append]
      exact .inr (.inl (weights_all hk (List.mem_map.2 ⟨i, List.mem_range.2 hil, rfl⟩)))))
    exact ⟨y, c, hc, hy, hV⟩)
  refine ⟨l, ⟨some a, m, by rw [hlen], by omega, ?_⟩, ?_, ?_⟩
  · refine ⟨rfl, by simp only [maxLen] at hm; omega, fun _ => ⟨a, rfl, fun j p hj => ?_⟩⟩
    obtain ⟨c, hc, hK, _⟩ := hq j p hj
    obtain ⟨_, hcl, hat⟩ := World.cells?_some hc
    refine ⟨c, by rw [hcl, hs], hK, fun i u hu => ?_⟩
    have hil : i < P.cellsOf e := by
      have := (List.getElem?_eq_some_iff.1 hu).1
      omega
    rw [← hs, ← Go.Deep.add_add, hat i hil, hu]
  · rw [hlen]
    exact Nat.le_trans (Nat.mul_le_mul_right _ (by omega)) hw'
  · intro y hy
    obtain ⟨i, hi2⟩ := List.mem_iff_getElem?.1 hy
    exact (hq i y hi2).elim fun c h => h.2.2
def OpnF (P : Program) (fs : List Field) {α : Type} (d : Kd α) (V : α → Prop) (o : Nat) : Prop :=
  ∀ (H : Type) (enc : TypeId × Value → H) (w : World) (n : Nat) (cs : List Value) (xs : List (DataW H × List MemPlace)),
    o + d.sz ≤ cs.length →
    (∀ (i : Nat) (f : Field), fs[i]? = some f → ∃ x, xs[i]? = some x ∧ DataW.trod enc P w 0 (fun _ => true) true n f.type ((cs.drop f.offset).take (P.cellsOf f.type)) = some x ∧ ∀ k ∈ DataW.weights P f.type x.1, k ≤ 140737488351232) →
    ∃ y, d.K w y ((cs.drop o).take d.sz) ∧ V y
theorem opn_last {P : Program} {f : Field} {α : Type} {d : Kd α} {V : α → Prop} {o : Nat} (ho : f.offset = o) (hs : P.cellsOf f.type = d.sz) (h : Opn P f.type d V) : OpnF P [f] d V o := by
  intro H enc w n cs xs _ hx
  obtain ⟨x, _, ht, hw⟩ := hx 0 f rfl
  rw [hs, ho] at ht
  exact h H enc w n _ x ht hw
theorem take_two {α : Type} (cs : List α) (o a b : Nat) : (cs.drop o).take (a + b) = (cs.drop o).take a ++ (cs.drop (o + a)).take b := by
  rw [List.take_add, List.drop_drop]
theorem opn_cons {P : Program} {f : Field} {fs : List Field} {α β : Type} {a : Kd α} {b : Kd β} {V : α → Prop} {U : β → Prop} {o : Nat} (ho : f.offset = o) (hs : P.cellsOf f.type = a.sz) (h : Opn P f.type a V) (hr : OpnF P fs b U (o + a.sz)) :
    OpnF P (f :: fs) (Kd.pair a b) (fun y => V y.1 ∧ U y.2) o := by
  intro H enc w n cs xs hl hx
  obtain ⟨x, hx0, ht, hw⟩ := hx 0 f rfl
  rw [hs, ho] at ht
  obtain ⟨y, hy, hV⟩ := h H enc w n _ x ht hw
  have hl' : o + (a.sz + b.sz) ≤ cs.length := hl
  obtain ⟨z, hz, hU⟩ := hr H enc w n cs (xs.drop 1) (by omega) (fun i g hg => by
    obtain ⟨x', h1, h2⟩ := hx (i + 1) g (by simpa using hg)
    exact ⟨x', by rw [List.getElem?_drop, Nat.add_comm]; exact h1, h2⟩)
  exact ⟨(y, z), ⟨_, _, take_two cs o a.sz b.sz, hy, hz⟩, hV, hU⟩
theorem opn_struct {P : Program} {t : TypeId} {fa : Array Field} {fs : List Field} {α β : Type} {d : Kd α} {V : α → Prop} (ht : P.underlying t = some (.struct fa)) (hf : fa.toList = fs) (hs : P.cellsOf t = d.sz) (g : β → α) (g' : α → β) (hg : ∀ y, g (g' y) = y)
    (h : OpnF P fs d V 0) : Opn P t (Kd.iso d g) (fun x => V (g x)) := by
  intro H enc w fuel cs x hx hw
  obtain ⟨xs, n, rfl, rfl, hl, hxl, hfs⟩ := DataW.trod_struct ht hx
  obtain ⟨y, hy, hV⟩ := h H enc w n cs xs (by omega) (fun i f hi => by
    have hi' : fa[i]? = some f := by rw [← hf] at hi; simpa using hi
    have hlt : i < xs.length := by
      rw [hxl]
      exact (Array.getElem?_eq_some_iff.1 hi').1
    have h1 := hfs i f hi'
    refine ⟨xs[i], List.getElem?_eq_getElem hlt, by rw [h1, List.getElem?_eq_getElem hlt], fun k hk => hw k ?_⟩
    simp only [DataW.weights, ht]
    refine DataW.weights_mem_each (j := i) (t := f.type) (d := xs[i].1) ?_ ?_ k hk
    · rw [List.getElem?_map, hf, hi]
      rfl
    · rw [List.getElem?_map, List.getElem?_eq_getElem hlt]
      rfl)
  refine ⟨g' y, ?_, ?_⟩
  · show d.K w (g (g' y)) cs
    rw [hg]
    rw [List.drop_zero, ← hs, ← hl, List.take_length] at hy
    exact hy
  · show V (g (g' y))
    rw [hg]
    exact hV
theorem arg_slice {H : Type} {enc : TypeId × Value → H} {P : Program} {t e : TypeId} {α : Type} {d : Kd α} {V : List α → Prop} {W : World} {v : Value} {x : DataW H} {ps : List MemPlace} (ho : Opn P t (Kd.slice e d) V) (a : Option Addr) (len cap : Nat) (hv : v = .slice a len cap)
    (h : DataW.Trod enc P W 0 (fun _ => true) true t v x ps) (hw : ∀ n ∈ DataW.weights P t x, n ≤ 140737488351232) : ∃ (A : Option Addr) (c : Nat) (l : List α), v = .slice A l.length c ∧ l.length ≤ c ∧ Kd.C d W A l.length l ∧ V l := by
  obtain ⟨fuel, hf⟩ := h
  obtain ⟨l, ⟨A, c, hc, hl, hC⟩, hV⟩ := ho H enc W fuel _ _ hf hw
  subst hv
  have he : Value.slice a len cap = .slice A l.length c := by simpa [Value.cells] using hc
  exact ⟨A, c, l, he, hl, hC, hV⟩
theorem arg_weights {H : Type} {P : Program} {ts : List TypeId} {ds : List (DataW H)} (h : (DataW.weightsEach P ts ds).all (· ≤ reachBytes) = true) {j : Nat} {t : TypeId} {d : DataW H} (ht : ts[j]? = some t) (hd : ds[j]? = some d) : ∀ n ∈ DataW.weights P t d, n ≤ 140737488351232 := by
  intro n hn
  have := List.all_eq_true.1 h n (DataW.weights_mem_each ht hd n hn)
  exact of_decide_eq_true this
end Go.Proofs.YtbgabhknmpbgiaaDoor.Opn
end
section
namespace Go.Proofs.YtbgabhknmpbgiaaDoor.S
open Go.RowKit Go.Proofs.YtbgabhknmpbgiaaDoorW.PrintWords Go.Proofs.YtbgabhknmpbgiaaDoor.Opn
def V27 (x : S27) : Prop := ((Lit.int .i64 x.f0).wf = true) ∧ ((Lit.int .i64 x.f1).wf = true) ∧ ((Lit.int .i64 x.f2).wf = true) ∧ (True) ∧ ((Lit.int .i64 x.f4).wf = true) ∧ (x.f5.size ≤ 140737488351232)
theorem opn27 : Opn Tryd.prog 27 k27 V27 := opn_struct Tryd.underlying27 rfl (by kernel_rfl) (fun x : S27 => (x.f0, x.f1, x.f2, x.f3, x.f4, x.f5)) (fun y => (⟨y.1, y.2.1, y.2.2.1, y.2.2.2.1, y.2.2.2.2.1, y.2.2.2.2.2⟩ : S27)) (fun _ => rfl) (opn_cons rfl (by kernel_rfl) (opn_int Tryd.underlying3) (opn_cons rfl (by kernel_rfl) (opn_int Tryd.underlying3) (opn_cons rfl (by kernel_rfl) (opn_int Tryd.underlying3) (opn_cons rfl (by kernel_rfl) (opn_bool Tryd.underlying4) (opn_cons rfl (by kernel_rfl) (opn_int Tryd.underlying3) (opn_last rfl (by kernel_rfl) (opn_string Tryd.underlying9)))))))
def V54 (x : S54) : Prop := (V27 x.f0) ∧ ((Lit.int .i64 x.f1).wf = true)
theorem opn54 : Opn Tryd.prog 54 k54 V54 := opn_struct Tryd.underlying54 rfl (by kernel_rfl) (fun x : S54 => (x.f0, x.f1)) (fun y => (⟨y.1, y.2⟩ : S54)) (fun _ => rfl) (opn_cons rfl (by kernel_rfl) opn27 (opn_last rfl (by kernel_rfl) (opn_int Tryd.underlying3)))
end Go.Proofs.YtbgabhknmpbgiaaDoor.S
end
section
namespace Go.Proofs.YtbgabhknmpbgiaaDoor.S
open Go.RowKit Go.Proofs.YtbgabhknmpbgiaaDoorW.PrintWords
def plenumlaw49_SegmentSends.Pure : Prop := ∀ (a0 : Int) (a1 : ByteArray) (a2 : Int) (a3 : Int) (a4 : Int) (a5 : Int) (a6 : Int) (l7 : List (S54)), ((Lit.int .i64 a0).wf = true) → (a1.size ≤ 140737488351232) → ((Lit.int .i64 a2).wf = true) → ((Lit.int .i64 a3).wf = true) → ((Lit.int .i64 a4).wf = true) → ((Lit.int .i64 a5).wf = true) → ((Lit.int .i64 a6).wf = true) → (l7.length * 64 ≤ 140737488351232 ∧ ∀ y ∈ l7, V54 y) → ∃ k, plenumlaw49_SegmentSends.f k a0 a1 a2 a3 a4 a5 a6 l7 = some true
end Go.Proofs.YtbgabhknmpbgiaaDoor.S
end
section
namespace Go.Proofs.YtbgabhknmpbgiaaDoor.Pure
open Go.RowKit Go.Proofs.YtbgabhknmpbgiaaDoor.S
theorem SegmentSends : plenumlaw49_SegmentSends.Pure := by
  unfold plenumlaw49_SegmentSends.Pure
  intros
  exact ⟨0, rfl⟩
end Go.Proofs.YtbgabhknmpbgiaaDoor.Pure
end
section
namespace Go.Proofs.YtbgabhknmpbgiaaDoor.segmentSends
open Go.ChangeShapes Go.WideShapes Go.ChangeAt Go.RowKit
open Go.ChangeMaps (open_string shut_string)
open Go.Proofs.YtbgabhknmpbgiaaDoor.Opn Go.Proofs.YtbgabhknmpbgiaaDoorW.PrintWords Go.Proofs.YtbgabhknmpbgiaaDoor.S
set_option linter.unusedVariables false
theorem own : ownKnob Tryd.prog.godebug = none := by kernel_rfl
theorem laidOut : laidOutB Tryd.prog = true := by kernel_rfl
set_option maxHeartbeats 2000000 in
set_option maxRecDepth 100000 in
theorem lifted (os : Os) (started : os.Started) (H : Type) (enc : TypeId × Value → H) :
    ReturnsInHanded {} Tryd.checked os 5 .any (fun w args => (Rows.segmentSendsSpec.pre enc Tryd.prog Tryd.f5 Rows.segmentSendsRow.domain false w args ∧ laidMet Tryd.prog theLaid w) ∧ sizedMet enc Tryd.prog Tryd.f5 (OpenSpec.ofChange Rows.segmentSendsSpec) false w args) (Rows.segmentSendsSpec.post enc Tryd.prog Tryd.f5 false true false false) := by
  refine returnsInHanded_of_change_and (C := Tryd.checked) (X := fun w _ => laidMet Tryd.prog theLaid w) (fun _ _ _ hh h => h.of_heap hh) own started (by kernel_rfl) Tryd.func5
    (ChangeSpec.witness_at (enc := enc) (C := Tryd.checked) (os := os) (X := fun w _ => laidMet Tryd.prog theLaid w) false (laidWorld os) #[.int .i64 0, .string ByteArray.empty, .int .i64 0, .int .i64 0, .int .i64 0, .int .i64 0, .int .i64 0, .slice none 0 0] 8 rfl (by kernel_rfl) (by kernel_rfl) (by kernel_rfl) (by kernel_rfl) (by kernel_rfl) (laidWorld_met os _)) ?_
  intro W base args ds gs before hval0 hW hcnd hsz0 hL0 _
  have hGl := glob_of_laid hL0
  have hsz : (DataW.weightsEach Tryd.prog (Tryd.f5.params.toList ++ Rows.segmentSendsSpec.plain.varTypes Tryd.prog) (ds ++ gs)).all (· ≤ reachBytes) = true := hsz0
  have hval : ∀ (j : Nat) t v, Tryd.f5.params[j]? = some t → args[j]? = some v → Value.okWide Tryd.prog W .any base t v := hval0
  have hW' := hW
  obtain ⟨p, q, hA0, hV, rfl, hfz, hnd⟩ := hW
  have hA : DataW.TrodAll enc Tryd.prog W 0 (fun _ => true) true Tryd.f5.params.toList args.toList ds p := hA0
  rw [Tryd.params5] at hA hval hsz
  obtain ⟨v0, vs0, d0, ds0, p0, q0, hargs, rfl, rfl, h0, r0⟩ := trodAll_cons hA
  obtain ⟨v1, vs1, d1, ds1, p1, q1, rfl, rfl, rfl, h1, r1⟩ := trodAll_cons r0
  obtain ⟨v2, vs2, d2, ds2, p2, q2, rfl, rfl, rfl, h2, r2⟩ := trodAll_cons r1
  obtain ⟨v3, vs3, d3, ds3, p3, q3, rfl, rfl, rfl, h3, r3⟩ := trodAll_cons r2
  obtain ⟨v4, vs4, d4, ds4, p4, q4, rfl, rfl, rfl, h4, r4⟩ := trodAll_cons r3
  obtain ⟨v5, vs5, d5, ds5, p5, q5, rfl, rfl, rfl, h5, r5⟩ := trodAll_cons r4
  obtain ⟨v6, vs6, d6, ds6, p6, q6, rfl, rfl, rfl, h6, r6⟩ := trodAll_cons r5
  obtain ⟨v7, vs7, d7, ds7, p7, q7, rfl, rfl, rfl, h7, r7⟩ := trodAll_cons r6
  obtain ⟨rfl, rfl, rfl⟩ := trodAll_nil r7
  obtain rfl : args = #[v0, v1, v2, v3, v4, v5, v6, v7] := by cases args; simp_all
  obtain ⟨rfl, rfl⟩ := trodVars_none hV
  obtain ⟨a0, rfl, rfl, rfl, w0⟩ := open_int Tryd.underlying3 (hval 0 3 v0 rfl rfl) h0
  obtain ⟨a1, rfl, rfl, rfl, y1⟩ := open_string Tryd.underlying9 (hval 1 9 v1 rfl rfl) h1
  have hV1 : a1.size ≤ 140737488351232 := by
    have z := sized_string hsz (j := 1) (t := 9) rfl rfl
    rw [Array.length_toList] at z
    exact z
  obtain ⟨a2, rfl, rfl, rfl, w2⟩ := open_int Tryd.underlying3 (hval 2 3 v2 rfl rfl) h2
  obtain ⟨a3, rfl, rfl, rfl, w3⟩ := open_int Tryd.underlying3 (hval 3 3 v3 rfl rfl) h3
  obtain ⟨a4, rfl, rfl, rfl, w4⟩ := open_int Tryd.underlying3 (hval 4 3 v4 rfl rfl) h4
  obtain ⟨a5, rfl, rfl, rfl, w5⟩ := open_int Tryd.underlying3 (hval 5 3 v5 rfl rfl) h5
  obtain ⟨a6, rfl, rfl, rfl, w6⟩ := open_int Tryd.underlying3 (hval 6 3 v6 rfl rfl) h6
  have k7 := h7
  have lt7 : ∀ x ∈ p7, x.block < W.heap.size := by obtain ⟨m, hm⟩ := k7; exact DataW.trod_lt m _ _ _ hm
  obtain ⟨b7, len7, cap7, hb7⟩ := okWide_slice Tryd.underlying42 (hval 7 42 v7 rfl rfl)
  obtain ⟨A7, c7, l7, hv7, hc7, hr7, hV7⟩ := arg_slice (opn_slice (B := 64) Tryd.underlying42 (by kernel_rfl) (by kernel_rfl) opn54) b7 len7 cap7 hb7 h7 (arg_weights hsz (j := 7) (t := 42) rfl rfl)
  clear hb7
  subst hv7
  clear hA0 hval0 hsz0 hsz
  obtain ⟨k, h⟩ := Pure.SegmentSends a0 a1 a2 a3 a4 a5 a6 l7 w0 hV1 w2 w3 w4 w5 w6 hV7
  refine (S.plenumlaw49_SegmentSends.calls k a0 a1 a2 a3 a4 a5 a6 A7 c7 l7 true W hGl hr7 hc7 h).mono fun e W' ⟨he, bel0⟩ => ?_
  have bel : Below W.heap.size W W' := bel0
  subst he
  exact ⟨_, rfl, _, _, _, [], _, [], hW', trodAll_mk1 (shut_bool Tryd.underlying4 _), (trodAll_cons_mk (shut_int Tryd.underlying3 w0) (trodAll_cons_mk (shut_string Tryd.underlying9 y1) (trodAll_cons_mk (shut_int Tryd.underlying3 w2) (trodAll_cons_mk (shut_int Tryd.underlying3 w3) (trodAll_cons_mk (shut_int Tryd.underlying3 w4) (trodAll_cons_mk (shut_int Tryd.underlying3 w5) (trodAll_cons_mk (shut_int Tryd.underlying3 w6) (trodAll_cons_mk (Below.trod laidOut (by kernel_rfl) (of_decide_eq_true (by kernel_rfl)) k7 bel lt7) trodAll_mk0)))))))), rfl, bel.frame _, fun h => by cases h⟩
theorem over : Rows.segmentSendsRow.holds Tryd.pinned (OpenSpec.ofChange Rows.segmentSendsSpec) :=
  OpenClaim.holds_of_wide 5 Tryd.f5 rfl rfl rfl rfl rfl rfl rfl ⟨rfl, rfl, rfl, rfl, rfl⟩ rfl rfl rfl rfl rfl (by kernel_rfl) Tryd.func5 (by kernel_rfl)
    (of_decide_eq_true (by kernel_rfl)) (by unfold Func.isWrapper; first | (rw [if_pos (by decide +kernel)]; kernel_rfl) | (rw [if_neg (by decide +kernel)]; exact ⟨rfl, rfl⟩))
    (fun os started H enc _ => lifted os started H enc)
theorem card_holds : Rows.SegmentSendsCardSaid :=
  Claim7.holds_tied_plain_at .later [] [.data] true (true, "890f3340eab410ca07798f741ff427d8fc963afe88bbea7d7902dec58a10bb18") false
    over (fun _ h => by cases h) (by kernel_rfl) (fun _ h => by cases h) segmentSends_row_tie rfl ⟨rfl, rfl⟩ (by kernel_rfl) rfl
    (fun f fn hf hfn => by
      obtain rfl : f = 5 := Option.some.inj ((show Tryd.prog.funcNamed "plenum/plenumlaw49.SegmentSends" = some 5 by kernel_rfl).symm.trans hf) |>.symm
      obtain rfl : fn = Tryd.f5 := (Option.some.inj (Tryd.func5.symm.trans hfn)).symm
      exact ⟨by kernel_rfl, fun j t ht => by
        rw [Tryd.params5] at ht
        have ho : t = 3 ∨ t = 9 ∨ t = 42 := by
          rcases j with _ | _ | _ | _ | _ | _ | _ | _ | j
          all_goals simp at ht
          all_goals subst ht; simp
        obtain rfl | rfl | rfl := ho
        · exact (show Tryd.prog.wantsStandIn 3 = false by kernel_rfl)
        · exact (show Tryd.prog.wantsStandIn 9 = false by kernel_rfl)
        · exact (show Tryd.prog.wantsStandIn 42 = false by kernel_rfl)⟩)
    (by kernel_rfl)
#print axioms card_holds
end Go.Proofs.YtbgabhknmpbgiaaDoor.segmentSends
namespace Go.Proofs.YtbgabhknmpbgiaaDoor
theorem segmentSends_holds : Rows.SegmentSendsCardSaid := segmentSends.card_holds
end Go.Proofs.YtbgabhknmpbgiaaDoor
end
