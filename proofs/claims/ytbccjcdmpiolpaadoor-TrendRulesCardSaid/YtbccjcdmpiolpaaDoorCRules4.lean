/- TrendRulesCard: one part of the proof that the law answers true for every input, and that its arguments read afterwards as before. No condition. -/
import Derived.Test.YtbccjcdmpiolpaaDoorCRules3
import Derived.Outline
import Derived.Deep.OwnRows
section
namespace Go.Proofs.YtbccjcdmpiolpaaDoor.T
open Go.RowKit Go.Proofs.YtbccjcdmpiolpaaDoorW.PrintWords Go.Proofs.YtbccjcdmpiolpaaDoorW.PrintLast Go.Proofs.YtbccjcdmpiolpaaDoorW.PrintMore
attribute [local go_sem] max2_int min2_int max_two min_two max_three min_three max_four min_four
set_option linter.unusedVariables false
set_option linter.unusedSimpArgs false
def codec_Reader_Unsigned.f (k : Nat) (s0_0 : ByteArray) (s0_1 : Int) (s0_2 : Int) : Option (Int × ByteArray × Int × Int) := if s0_2 = 0 then ((codec_Reader_Unsigned_1.f k s0_0 s0_1).bind fun bt136 => (if bt136.2.2 = true then (some (bt136.1, s0_0, bt136.2.1, s0_2)) else (some (0, s0_0, s0_1, 2)))) else (some (0, s0_0, s0_1, s0_2))
def codec_Reader_Unsigned.T62004 : Bool × List (List Nat × List Nat) := (true, [([], []), ([], []), ([1], [1]), ([2], [2]), ([3], [3]), ([], []), ([5], [5]), ([6], [6]), ([7], [7]), ([0, 4, 8], [0, 4, 8]), ([9], [9]), ([10], [10]), ([10], [10]), ([10], [10]), ([11, 9, 0, 1, 2, 3, 4, 5, 6, 7, 8, 9, 10, 11], [11]), ([12, 14, 0, 1, 2, 3, 4, 5, 6, 7, 8, 9, 10, 11, 12, 14], [12]), ([13, 15, 0, 1, 2, 3, 4, 5, 6, 7, 8, 9, 10, 11, 12, 13, 14, 15], [13])])
def codec_Reader_Unsigned.B62004 : List Nat := [0, 0, 2, 6, 14, 0, 32, 96, 224, 511, 1023, 2047, 2047, 2047, 4095, 24575, 65535]
theorem codec_Reader_Unsigned.tab62004 : rtab .any (opsOf Tryd.f62 4) = codec_Reader_Unsigned.T62004 := by kernel_rfl
theorem codec_Reader_Unsigned.bits62004 : waitsOk codec_Reader_Unsigned.T62004.2 codec_Reader_Unsigned.B62004 = true := by kernel_rfl
set_option maxHeartbeats 8000000 in
set_option maxRecDepth 100000 in
theorem codec_Reader_Unsigned.calls (k : Nat) (g : Nat) (s0_0 : ByteArray) (s0_1 : Int) (s0_2 : Int) (r1 : Int) (r2 : ByteArray) (r3 : Int) (r4 : Int) (w0 w : World) (hG : Glob w0) (hI : IsS102 w0 w g s0_0 s0_1 s0_2) (hB : Below w0.heap.size w0 w) (h : codec_Reader_Unsigned.f k s0_0 s0_1 s0_2 = some (r1, r2, r3, r4)) :
    Calls Tryd.prog 59 #[.pointer (some ⟨g, 0, none⟩)] w fun e w' => e = .returned (.int .u64 r1) ∧ IsS102 w0 w' g r2 r3 r4 ∧ Below w0.heap.size w0 w' ∧ KeepBut w w' g none := by
  have hmf_ : ∀ (fn : Fn) (first cap : Array Value) (w : World), (Instr.makeFunc fn first cap).run Tryd.prog w = .ok (.func fn first cap) w := fun _ _ _ _ => rfl
  have HG := Aside0.mk hG
  clear hG
  have HI0 := Aside0.mk hI
  have HK := Aside0.mk (KeepBut.refl w g none)
  have HL := Aside0.mk hB.size
  clear hI
  have HW0 := Aside0.mk hB.size
  have HB := Aside0.mk hB
  clear hB
  have H : (if s0_2 = 0 then ((codec_Reader_Unsigned_1.f k s0_0 s0_1).bind fun bt136 => (if bt136.2.2 = true then (some (bt136.1, s0_0, bt136.2.1, s0_2)) else (some (0, s0_0, s0_1, 2)))) else (some (0, s0_0, s0_1, s0_2))) = some (r1, r2, r3, r4) := h
  clear h
  by_cases c2 : s0_2 = 0
  · rw [if_pos c2] at H
    have c2b0 : (s0_2 == 0) = true := beq_iff_eq.mpr c2
    have c2b1 : (s0_2 != 0) = false := bne_eq_false_iff_eq.mpr c2
    clear c2
    replace H := Option.bind_eq_some_iff.mp H
    obtain ⟨⟨t136, t137, t138⟩, A30, H⟩ := H
    replace H : (if t138 = true then (some (t136, s0_0, t137, s0_2)) else (some (0, s0_0, s0_1, 2))) = some (r1, r2, r3, r4) := H
    have A3 := Aside0.mk A30
    clear A30
    by_cases c4 : t138 = true
    · subst c4
      have H1 : (some (t136, s0_0, t137, s0_2)) = some (r1, r2, r3, r4) := by rw [if_pos rfl] at H; exact H
      clear H
      have H := H1
      clear H1
      simp only [Option.some.injEq, Prod.mk.injEq] at H
      obtain ⟨rfl, rfl, rfl, rfl⟩ := H
      obtain ⟨HGz5, hgz5⟩ := HI0.out
      have hcz5_0 := cellS102_0 HGz5
      have hcz5_1 := cellS102_1 HGz5
      have hcz5_2 := cellS102_2 HGz5
      have hfz5_0 := blk_frozen HGz5 0
      have hfz5_1 := blk_frozen HGz5 1
      have hfz5_2 := blk_frozen HGz5 2
      clear HGz5 hgz5
      go_enter Tryd.func59, Tryd.ntmps59
      try go_wp2_with (first | (go_at_call 62; go_in) | ((try simp only [Exit.inBlock, Exit.then]); refine bodyPost_end (results_none rfl _ _ _) rfl ?_; simp only []; go_at_K))
      have n0_ := Aside0.mk (IsS102.drew HI0.out)
      have n1_ := Aside0.mk (keep_drew HK.out)
      have n2_ := Aside0.mk (below_drew1 HB.out)
      clear HI0
      clear HK
      clear HB
      have HI0 := n0_
      have HK := n1_
      have HB := n2_
      clear n0_ n1_ n2_
      refine start_ (n := 17) (S := fun w' => w'.cell? ⟨g, 0, none⟩ = some (.string s0_0) ∧ w'.cell? ⟨g, 1, none⟩ = some (.int .i64 s0_1) ∧ w'.cell? ⟨g, 2, none⟩ = some (.int .i64 s0_2)) (ds := []) #[Yn, Yn, Yn, Yn, Yn, Yn, Yn, Yn, Yn, Yn, Yn, Yn, Yn, Yn, Yn, Yn, Yn] (by kernel_rfl) rfl rfl ⟨(blk_cell (Aside0.mk HI0.out.1).out 0).trans rfl, (blk_cell (Aside0.mk HI0.out.1).out 1).trans rfl, (blk_cell (Aside0.mk HI0.out.1).out 2).trans rfl⟩ (fun hHeld => ?_); refine with_tabW codec_Reader_Unsigned.tab62004 codec_Reader_Unsigned.bits62004 (fun HT_ HW_ => ?_)
      generalize w.drew = w6 at HI0 HK HB hHeld ⊢
      refine pure_ (i := 0) (N := some 16) (v := ?_) (a' := ?_) #[Y, Yn, Yn, Yn, Yn, Yn, Yn, Yn, Yn, Yn, Yn, Yn, Yn, Yn, Yn, Yn, Yn] rfl rfl (any_of HT_.out (by kernel_rfl)) (fun _ _ _ h => h) (Or.inl ⟨by rfl, ?_⟩) ?_ ?_
      rotate_left
      · intro w'
        go_simp
        with_reducible rfl
      rotate_left
      · simp only [Act.put, List.setIfInBounds_toArray, List.set_cons_zero, List.set_cons_succ, i64_w, i32_w]
        rfl
      refine pure_ (i := 1) (N := some 17) (v := ?_) (a' := ?_) #[Y, Y, Yn, Yn, Yn, Yn, Yn, Yn, Yn, Yn, Yn, Yn, Yn, Yn, Yn, Yn, Yn] rfl rfl (any_of HT_.out (by kernel_rfl)) (fun _ _ _ h => h) (Or.inl ⟨by rfl, ?_⟩) ?_ ?_
      rotate_left
      · intro w'
        go_simp
        with_reducible rfl
      rotate_left
      · simp only [Act.put, List.setIfInBounds_toArray, List.set_cons_zero, List.set_cons_succ, i64_w, i32_w]
        rfl
      refine pure_ (i := 2) (N := some 18) (v := ?_) (a' := ?_) #[Y, Y, Y, Yn, Yn, Yn, Yn, Yn, Yn, Yn, Yn, Yn, Yn, Yn, Yn, Yn, Yn] rfl rfl (any_of HT_.out (by kernel_rfl)) (fun _ _ _ h => h) (Or.inl ⟨by rfl, ?_⟩) ?_ ?_
      rotate_left
      · intro w'
        go_simp
        with_reducible rfl
      rotate_left
      · simp only [Act.put, List.setIfInBounds_toArray, List.set_cons_zero, List.set_cons_succ, i64_w, i32_w]
        rfl
      refine pure_ (i := 3) (N := some 19) (v := ?_) (a' := ?_) #[Y, Y, Y, Y, Yn, Yn, Yn, Yn, Yn, Yn, Yn, Yn, Yn, Yn, Yn, Yn, Yn] rfl rfl (any_of HT_.out (by kernel_rfl)) (fun _ _ _ h => h) (Or.inl ⟨by rfl, ?_⟩) ?_ ?_
      rotate_left
      · intro w'
        go_simp
        with_reducible rfl
      rotate_left
      · simp only [Act.put, List.setIfInBounds_toArray, List.set_cons_zero, List.set_cons_succ, i64_w, i32_w]
        rfl
      refine pure_ (i := 5) (N := some 21) (v := ?_) (a' := ?_) #[Y, Y, Y, Y, Yn, Y, Yn, Yn, Yn, Yn, Yn, Yn, Yn, Yn, Yn, Yn, Yn] rfl rfl (any_of HT_.out (by kernel_rfl)) (fun _ _ _ h => h) (Or.inl ⟨by rfl, ?_⟩) ?_ ?_
      rotate_left
      · intro w'
        go_simp
        with_reducible rfl
      rotate_left
      · simp only [Act.put, List.setIfInBounds_toArray, List.set_cons_zero, List.set_cons_succ, i64_w, i32_w]
        rfl
      refine pure_ (i := 6) (N := some 22) (v := ?_) (a' := ?_) #[Y, Y, Y, Y, Yn, Y, Y, Yn, Yn, Yn, Yn, Yn, Yn, Yn, Yn, Yn, Yn] rfl rfl (any_of HT_.out (by kernel_rfl)) (fun _ _ _ h => h) (Or.inl ⟨by rfl, ?_⟩) ?_ ?_
      rotate_left
      · intro w'
        go_simp
        with_reducible rfl
      rotate_left
      · simp only [Act.put, List.setIfInBounds_toArray, List.set_cons_zero, List.set_cons_succ, i64_w, i32_w]
        rfl
      refine pure_ (i := 7) (N := some 23) (v := ?_) (a' := ?_) #[Y, Y, Y, Y, Yn, Y, Y, Y, Yn, Yn, Yn, Yn, Yn, Yn, Yn, Yn, Yn] rfl rfl (any_of HT_.out (by kernel_rfl)) (fun _ _ _ h => h) (Or.inl ⟨by rfl, ?_⟩) ?_ ?_
      rotate_left
      · intro w'
        go_simp
        with_reducible rfl
      rotate_left
      · simp only [Act.put, List.setIfInBounds_toArray, List.set_cons_zero, List.set_cons_succ, i64_w, i32_w]
        rfl
      refine take_ (i := 4) (N := some 20) (v := ?_) (a' := ?_) #[Y, Y, Y, Y, Y, Y, Y, Y, Yn, Yn, Yn, Yn, Yn, Yn, Yn, Yn, Yn] rfl rfl (take_ofW HT_.out HW_.out (by kernel_rfl)) (fun _ _ _ h => h) (Or.inl ⟨by rfl, ?_⟩) hHeld ?_ ?_
      rotate_left
      · rintro w' ⟨s0, s1, s2⟩
        go_simp
        with_reducible rfl
      rotate_left
      · simp only [Act.put, List.setIfInBounds_toArray, List.set_cons_zero, List.set_cons_succ, i64_w, i32_w]
        rfl
      refine take_ (i := 8) (N := some 24) (v := ?_) (a' := ?_) #[Y, Y, Y, Y, Y, Y, Y, Y, Y, Yn, Yn, Yn, Yn, Yn, Yn, Yn, Yn] rfl rfl (take_ofW HT_.out HW_.out (by kernel_rfl)) (fun _ _ _ h => h) (Or.inl ⟨by rfl, ?_⟩) hHeld ?_ ?_
      rotate_left
      · rintro w' ⟨s0, s1, s2⟩
        go_simp
        with_reducible rfl
      rotate_left
      · simp only [Act.put, List.setIfInBounds_toArray, List.set_cons_zero, List.set_cons_succ, i64_w, i32_w]
        rfl
      refine one_ (i := 9) (N := some 25) #[Y, Y, Y, Y, Y, Y, Y, Y, Y, Y, Yn, Yn, Yn, Yn, Yn, Yn, Yn] rfl rfl (one_of HT_.out (by kernel_rfl)) (by decide) (fun K hK => ?_)
      refine goesT_ Tryd.func73 (by kernel_rfl) rfl #[.string s0_0, .int .i64 s0_1] (by rfl) rfl rfl rfl (by (try simp only [List.map_toArray, List.map_cons, List.map_nil]); first | done | rfl | (simp only [List.length_drop, List.length_take]; rfl)) ?_
      with_reducible refine (codec_Reader_Unsigned_1.calls k s0_0 s0_1 t136 t137 true _ ?side99  A3.out).mono ?_
      (case side99 => first | exact HG.out | exact Glob.below HG.out (by repeat (first | (with_reducible first | exact HB.out | apply below_alloc | apply pw_below_drewN | apply below_drew1 | refine below_set ?_ (IsS102.ge HI0.out)) | exact HB.out)))
      rintro e w7 ⟨rfl, hb⟩
      refine ⟨_, rfl, ?_⟩
      have n0_ := Aside0.mk (IsS102.below (by repeat (first | (with_reducible first | exact HI0.out | apply IsS102.alloc | apply IsS102.drewN | apply IsS102.drew | apply IsS102.set_0 | apply IsS102.set_1 | apply IsS102.set_2) | exact HI0.out)) hb)
      have n1_ := Aside0.mk (KeepBut.trans (by repeat (first | (with_reducible first | exact HK.out | apply KeepBut.set_ | apply keep_drewN | apply keep_drew | apply keep_alloc) | exact HK.out)) (KeepBut.of_below hb g none) (.inl rfl))
      have n2_ := Aside0.mk (below_step (by repeat (first | (with_reducible first | exact HB.out | apply below_alloc | apply pw_below_drewN | apply below_drew1 | refine below_set ?_ (IsS102.ge HI0.out)) | exact HB.out)) hb)
      clear HI0
      clear HK
      clear HB
      have HI0 := n0_
      have HK := n1_
      have HB := n2_
      clear n0_ n1_ n2_
      (try clear hb)
      (try clear hb2)
      (try clear hk)
      (try clear hi)
      refine hK.out _ _ ⟨(blk_cell (Aside0.mk HI0.out.1).out 0).trans rfl, (blk_cell (Aside0.mk HI0.out.1).out 1).trans rfl, (blk_cell (Aside0.mk HI0.out.1).out 2).trans rfl⟩ (fun hHeld => ?_)
      clear hK K
      refine norm_ (a' := ?_) ?_ ?_
      rotate_left
      · show Act.put _ (some 25) _ = _
        simp only [Act.put, List.setIfInBounds_toArray, List.set_cons_zero, List.set_cons_succ, i64_w, i32_w]
        rfl
      refine pure_ (i := 10) (N := some 15) (v := ?_) (a' := ?_) #[Y, Y, Y, Y, Y, Y, Y, Y, Y, Y, Y, Yn, Yn, Yn, Yn, Yn, Yn] rfl rfl (any_of HT_.out (by kernel_rfl)) (fun _ _ _ h => h) (Or.inl ⟨by rfl, ?_⟩) ?_ ?_
      rotate_left
      · intro w'
        go_simp
        with_reducible rfl
      rotate_left
      · simp only [Act.put, List.setIfInBounds_toArray, List.set_cons_zero, List.set_cons_succ, i64_w, i32_w]
        rfl
      refine pure_ (i := 11) (N := some 26) (v := ?_) (a' := ?_) #[Y, Y, Y, Y, Y, Y, Y, Y, Y, Y, Y, Y, Yn, Yn, Yn, Yn, Yn] rfl rfl (any_of HT_.out (by kernel_rfl)) (fun _ _ _ h => h) (Or.inl ⟨by rfl, ?_⟩) ?_ ?_
      rotate_left
      · intro w'
        go_simp
        with_reducible rfl
      rotate_left
      · simp only [Act.put, List.setIfInBounds_toArray, List.set_cons_zero, List.set_cons_succ, i64_w, i32_w]
        rfl
      refine pure_ (i := 12) (N := some 27) (v := ?_) (a' := ?_) #[Y, Y, Y, Y, Y, Y, Y, Y, Y, Y, Y, Y, Y, Yn, Yn, Yn, Yn] rfl rfl (any_of HT_.out (by kernel_rfl)) (fun _ _ _ h => h) (Or.inl ⟨by rfl, ?_⟩) ?_ ?_
      rotate_left
      · intro w'
        go_simp
        with_reducible rfl
      rotate_left
      · simp only [Act.put, List.setIfInBounds_toArray, List.set_cons_zero, List.set_cons_succ, i64_w, i32_w]
        rfl
      refine pure_ (i := 13) (N := some 28) (v := ?_) (a' := ?_) #[Y, Y, Y, Y, Y, Y, Y, Y, Y, Y, Y, Y, Y, Y, Yn, Yn, Yn] rfl rfl (any_of HT_.out (by kernel_rfl)) (fun _ _ _ h => h) (Or.inl ⟨by rfl, ?_⟩) ?_ ?_
      rotate_left
      · intro w'
        go_simp
        with_reducible rfl
      rotate_left
      · simp only [Act.put, List.setIfInBounds_toArray, List.set_cons_zero, List.set_cons_succ, i64_w, i32_w]
        rfl
      refine pure_ (i := 14) (N := some 6) (v := ?_) (a' := ?_) #[Y, Y, Y, Y, Y, Y, Y, Y, Y, Y, Y, Y, Y, Y, Y, Yn, Yn] rfl rfl (any_of HT_.out (by kernel_rfl)) (fun _ _ _ h => h) (Or.inl ⟨by rfl, ?_⟩) ?_ ?_
      rotate_left
      · intro w'
        go_simp
        with_reducible rfl
      rotate_left
      · simp only [Act.put, List.setIfInBounds_toArray, List.set_cons_zero, List.set_cons_succ, i64_w, i32_w]
        rfl
      refine pure_ (i := 15) (N := some 7) (v := ?_) (a' := ?_) #[Y, Y, Y, Y, Y, Y, Y, Y, Y, Y, Y, Y, Y, Y, Y, Y, Yn] rfl rfl (any_of HT_.out (by kernel_rfl)) (fun _ _ _ h => h) (Or.inl ⟨by rfl, ?_⟩) ?_ ?_
      rotate_left
      · intro w'
        go_simp
        with_reducible rfl
      rotate_left
      · simp only [Act.put, List.setIfInBounds_toArray, List.set_cons_zero, List.set_cons_succ, i64_w, i32_w]
        rfl
      refine pure_ (i := 16) (N := some 8) (v := ?_) (a' := ?_) #[Y, Y, Y, Y, Y, Y, Y, Y, Y, Y, Y, Y, Y, Y, Y, Y, Y] rfl rfl (any_of HT_.out (by kernel_rfl)) (fun _ _ _ h => h) (Or.inl ⟨by rfl, ?_⟩) ?_ ?_
      rotate_left
      · intro w'
        go_simp
        with_reducible rfl
      rotate_left
      · simp only [Act.put, List.setIfInBounds_toArray, List.set_cons_zero, List.set_cons_succ, i64_w, i32_w]
        rfl
      refine done_ (done_of HT_.out (by kernel_rfl)) ?_
      obtain ⟨HGz8, hgz8⟩ := HI0.out
      have hcz8_0 := cellS102_0 HGz8
      have hcz8_1 := cellS102_1 HGz8
      have hcz8_2 := cellS102_2 HGz8
      have hfz8_0 := blk_frozen HGz8 0
      have hfz8_1 := blk_frozen HGz8 1
      have hfz8_2 := blk_frozen HGz8 2
      clear HGz8 hgz8
      try go_wp2_with (first | (go_at_call 62; go_in) | ((try simp only [Exit.inBlock, Exit.then]); refine bodyPost_end (results_none rfl _ _ _) rfl ?_; simp only []; go_at_K))
      go_ret
      exact ⟨by first | rfl | (simp [errW_none, errW_some] <;> rfl) | (simp [*, errW_none, errW_some] <;> rfl), by repeat (first | (with_reducible first | exact HI0.out | apply IsS102.alloc | apply IsS102.drewN | apply IsS102.drew | apply IsS102.set_0 | apply IsS102.set_1 | apply IsS102.set_2) | exact HI0.out), by repeat (first | (with_reducible first | exact HB.out | apply below_alloc | apply pw_below_drewN | apply below_drew1 | refine below_set ?_ (IsS102.ge HI0.out)) | exact HB.out), by repeat (first | (with_reducible first | exact HK.out | apply KeepBut.set_ | apply keep_drewN | apply keep_drew | apply keep_alloc) | exact HK.out)⟩
    · replace c4 := Bool.eq_false_iff.mpr c4
      subst c4
      have H1 : (some (0, s0_0, s0_1, 2)) = some (r1, r2, r3, r4) := by rw [if_neg (show ¬ (false = true) by decide)] at H; exact H
      clear H
      have H := H1
      clear H1
      simp only [Option.some.injEq, Prod.mk.injEq] at H
      obtain ⟨rfl, rfl, rfl, rfl⟩ := H
      obtain ⟨HGz9, hgz9⟩ := HI0.out
      have hcz9_0 := cellS102_0 HGz9
      have hcz9_1 := cellS102_1 HGz9
      have hcz9_2 := cellS102_2 HGz9
      have hfz9_0 := blk_frozen HGz9 0
      have hfz9_1 := blk_frozen HGz9 1
      have hfz9_2 := blk_frozen HGz9 2
      clear HGz9 hgz9
      go_enter Tryd.func59, Tryd.ntmps59
      try go_wp2_with (first | (go_at_call 62; go_in) | ((try simp only [Exit.inBlock, Exit.then]); refine bodyPost_end (results_none rfl _ _ _) rfl ?_; simp only []; go_at_K))
      have n0_ := Aside0.mk (IsS102.drew HI0.out)
      have n1_ := Aside0.mk (keep_drew HK.out)
      have n2_ := Aside0.mk (below_drew1 HB.out)
      clear HI0
      clear HK
      clear HB
      have HI0 := n0_
      have HK := n1_
      have HB := n2_
      clear n0_ n1_ n2_
      refine start_ (n := 17) (S := fun w' => w'.cell? ⟨g, 0, none⟩ = some (.string s0_0) ∧ w'.cell? ⟨g, 1, none⟩ = some (.int .i64 s0_1) ∧ w'.cell? ⟨g, 2, none⟩ = some (.int .i64 s0_2)) (ds := []) #[Yn, Yn, Yn, Yn, Yn, Yn, Yn, Yn, Yn, Yn, Yn, Yn, Yn, Yn, Yn, Yn, Yn] (by kernel_rfl) rfl rfl ⟨(blk_cell (Aside0.mk HI0.out.1).out 0).trans rfl, (blk_cell (Aside0.mk HI0.out.1).out 1).trans rfl, (blk_cell (Aside0.mk HI0.out.1).out 2).trans rfl⟩ (fun hHeld => ?_); refine with_tabW codec_Reader_Unsigned.tab62004 codec_Reader_Unsigned.bits62004 (fun HT_ HW_ => ?_)
      generalize w.drew = w10 at HI0 HK HB hHeld ⊢
      refine pure_ (i := 0) (N := some 16) (v := ?_) (a' := ?_) #[Y, Yn, Yn, Yn, Yn, Yn, Yn, Yn, Yn, Yn, Yn, Yn, Yn, Yn, Yn, Yn, Yn] rfl rfl (any_of HT_.out (by kernel_rfl)) (fun _ _ _ h => h) (Or.inl ⟨by rfl, ?_⟩) ?_ ?_
      rotate_left
      · intro w'
        go_simp
        with_reducible rfl
      rotate_left
      · simp only [Act.put, List.setIfInBounds_toArray, List.set_cons_zero, List.set_cons_succ, i64_w, i32_w]
        rfl
      refine pure_ (i := 1) (N := some 17) (v := ?_) (a' := ?_) #[Y, Y, Yn, Yn, Yn, Yn, Yn, Yn, Yn, Yn, Yn, Yn, Yn, Yn, Yn, Yn, Yn] rfl rfl (any_of HT_.out (by kernel_rfl)) (fun _ _ _ h => h) (Or.inl ⟨by rfl, ?_⟩) ?_ ?_
      rotate_left
      · intro w'
        go_simp
        with_reducible rfl
      rotate_left
      · simp only [Act.put, List.setIfInBounds_toArray, List.set_cons_zero, List.set_cons_succ, i64_w, i32_w]
        rfl
      refine pure_ (i := 2) (N := some 18) (v := ?_) (a' := ?_) #[Y, Y, Y, Yn, Yn, Yn, Yn, Yn, Yn, Yn, Yn, Yn, Yn, Yn, Yn, Yn, Yn] rfl rfl (any_of HT_.out (by kernel_rfl)) (fun _ _ _ h => h) (Or.inl ⟨by rfl, ?_⟩) ?_ ?_
      rotate_left
      · intro w'
        go_simp
        with_reducible rfl
      rotate_left
      · simp only [Act.put, List.setIfInBounds_toArray, List.set_cons_zero, List.set_cons_succ, i64_w, i32_w]
        rfl
      refine pure_ (i := 3) (N := some 19) (v := ?_) (a' := ?_) #[Y, Y, Y, Y, Yn, Yn, Yn, Yn, Yn, Yn, Yn, Yn, Yn, Yn, Yn, Yn, Yn] rfl rfl (any_of HT_.out (by kernel_rfl)) (fun _ _ _ h => h) (Or.inl ⟨by rfl, ?_⟩) ?_ ?_
      rotate_left
      · intro w'
        go_simp
        with_reducible rfl
      rotate_left
      · simp only [Act.put, List.setIfInBounds_toArray, List.set_cons_zero, List.set_cons_succ, i64_w, i32_w]
        rfl
      refine pure_ (i := 5) (N := some 21) (v := ?_) (a' := ?_) #[Y, Y, Y, Y, Yn, Y, Yn, Yn, Yn, Yn, Yn, Yn, Yn, Yn, Yn, Yn, Yn] rfl rfl (any_of HT_.out (by kernel_rfl)) (fun _ _ _ h => h) (Or.inl ⟨by rfl, ?_⟩) ?_ ?_
      rotate_left
      · intro w'
        go_simp
        with_reducible rfl
      rotate_left
      · simp only [Act.put, List.setIfInBounds_toArray, List.set_cons_zero, List.set_cons_succ, i64_w, i32_w]
        rfl
      refine pure_ (i := 6) (N := some 22) (v := ?_) (a' := ?_) #[Y, Y, Y, Y, Yn, Y, Y, Yn, Yn, Yn, Yn, Yn, Yn, Yn, Yn, Yn, Yn] rfl rfl (any_of HT_.out (by kernel_rfl)) (fun _ _ _ h => h) (Or.inl ⟨by rfl, ?_⟩) ?_ ?_
      rotate_left
      · intro w'
        go_simp
        with_reducible rfl
      rotate_left
      · simp only [Act.put, List.setIfInBounds_toArray, List.set_cons_zero, List.set_cons_succ, i64_w, i32_w]
        rfl
      refine pure_ (i := 7) (N := some 23) (v := ?_) (a' := ?_) #[Y, Y, Y, Y, Yn, Y, Y, Y, Yn, Yn, Yn, Yn, Yn, Yn, Yn, Yn, Yn] rfl rfl (any_of HT_.out (by kernel_rfl)) (fun _ _ _ h => h) (Or.inl ⟨by rfl, ?_⟩) ?_ ?_
      rotate_left
      · intro w'
        go_simp
        with_reducible rfl
      rotate_left
      · simp only [Act.put, List.setIfInBounds_toArray, List.set_cons_zero, List.set_cons_succ, i64_w, i32_w]
        rfl
      refine take_ (i := 4) (N := some 20) (v := ?_) (a' := ?_) #[Y, Y, Y, Y, Y, Y, Y, Y, Yn, Yn, Yn, Yn, Yn, Yn, Yn, Yn, Yn] rfl rfl (take_ofW HT_.out HW_.out (by kernel_rfl)) (fun _ _ _ h => h) (Or.inl ⟨by rfl, ?_⟩) hHeld ?_ ?_
      rotate_left
      · rintro w' ⟨s0, s1, s2⟩
        go_simp
        with_reducible rfl
      rotate_left
      · simp only [Act.put, List.setIfInBounds_toArray, List.set_cons_zero, List.set_cons_succ, i64_w, i32_w]
        rfl
      refine take_ (i := 8) (N := some 24) (v := ?_) (a' := ?_) #[Y, Y, Y, Y, Y, Y, Y, Y, Y, Yn, Yn, Yn, Yn, Yn, Yn, Yn, Yn] rfl rfl (take_ofW HT_.out HW_.out (by kernel_rfl)) (fun _ _ _ h => h) (Or.inl ⟨by rfl, ?_⟩) hHeld ?_ ?_
      rotate_left
      · rintro w' ⟨s0, s1, s2⟩
        go_simp
        with_reducible rfl
      rotate_left
      · simp only [Act.put, List.setIfInBounds_toArray, List.set_cons_zero, List.set_cons_succ, i64_w, i32_w]
        rfl
      refine one_ (i := 9) (N := some 25) #[Y, Y, Y, Y, Y, Y, Y, Y, Y, Y, Yn, Yn, Yn, Yn, Yn, Yn, Yn] rfl rfl (one_of HT_.out (by kernel_rfl)) (by decide) (fun K hK => ?_)
      refine goesT_ Tryd.func73 (by kernel_rfl) rfl #[.string s0_0, .int .i64 s0_1] (by rfl) rfl rfl rfl (by (try simp only [List.map_toArray, List.map_cons, List.map_nil]); first | done | rfl | (simp only [List.length_drop, List.length_take]; rfl)) ?_
      with_reducible refine (codec_Reader_Unsigned_1.calls k s0_0 s0_1 t136 t137 false _ ?side99  A3.out).mono ?_
      (case side99 => first | exact HG.out | exact Glob.below HG.out (by repeat (first | (with_reducible first | exact HB.out | apply below_alloc | apply pw_below_drewN | apply below_drew1 | refine below_set ?_ (IsS102.ge HI0.out)) | exact HB.out)))
      rintro e w11 ⟨rfl, hb⟩
      refine ⟨_, rfl, ?_⟩
      have n0_ := Aside0.mk (IsS102.below (by repeat (first | (with_reducible first | exact HI0.out | apply IsS102.alloc | apply IsS102.drewN | apply IsS102.drew | apply IsS102.set_0 | apply IsS102.set_1 | apply IsS102.set_2) | exact HI0.out)) hb)
      have n1_ := Aside0.mk (KeepBut.trans (by repeat (first | (with_reducible first | exact HK.out | apply KeepBut.set_ | apply keep_drewN | apply keep_drew | apply keep_alloc) | exact HK.out)) (KeepBut.of_below hb g none) (.inl rfl))
      have n2_ := Aside0.mk (below_step (by repeat (first | (with_reducible first | exact HB.out | apply below_alloc | apply pw_below_drewN | apply below_drew1 | refine below_set ?_ (IsS102.ge HI0.out)) | exact HB.out)) hb)
      clear HI0
      clear HK
      clear HB
      have HI0 := n0_
      have HK := n1_
      have HB := n2_
      clear n0_ n1_ n2_
      (try clear hb)
      (try clear hb2)
      (try clear hk)
      (try clear hi)
      refine hK.out _ _ ⟨(blk_cell (Aside0.mk HI0.out.1).out 0).trans rfl, (blk_cell (Aside0.mk HI0.out.1).out 1).trans rfl, (blk_cell (Aside0.mk HI0.out.1).out 2).trans rfl⟩ (fun hHeld => ?_)
      clear hK K
      refine norm_ (a' := ?_) ?_ ?_
      rotate_left
      · show Act.put _ (some 25) _ = _
        simp only [Act.put, List.setIfInBounds_toArray, List.set_cons_zero, List.set_cons_succ, i64_w, i32_w]
        rfl
      refine pure_ (i := 10) (N := some 15) (v := ?_) (a' := ?_) #[Y, Y, Y, Y, Y, Y, Y, Y, Y, Y, Y, Yn, Yn, Yn, Yn, Yn, Yn] rfl rfl (any_of HT_.out (by kernel_rfl)) (fun _ _ _ h => h) (Or.inl ⟨by rfl, ?_⟩) ?_ ?_
      rotate_left
      · intro w'
        go_simp
        with_reducible rfl
      rotate_left
      · simp only [Act.put, List.setIfInBounds_toArray, List.set_cons_zero, List.set_cons_succ, i64_w, i32_w]
        rfl
      refine pure_ (i := 11) (N := some 26) (v := ?_) (a' := ?_) #[Y, Y, Y, Y, Y, Y, Y, Y, Y, Y, Y, Y, Yn, Yn, Yn, Yn, Yn] rfl rfl (any_of HT_.out (by kernel_rfl)) (fun _ _ _ h => h) (Or.inl ⟨by rfl, ?_⟩) ?_ ?_
      rotate_left
      · intro w'
        go_simp
        with_reducible rfl
      rotate_left
      · simp only [Act.put, List.setIfInBounds_toArray, List.set_cons_zero, List.set_cons_succ, i64_w, i32_w]
        rfl
      refine pure_ (i := 12) (N := some 27) (v := ?_) (a' := ?_) #[Y, Y, Y, Y, Y, Y, Y, Y, Y, Y, Y, Y, Y, Yn, Yn, Yn, Yn] rfl rfl (any_of HT_.out (by kernel_rfl)) (fun _ _ _ h => h) (Or.inl ⟨by rfl, ?_⟩) ?_ ?_
      rotate_left
      · intro w'
        go_simp
        with_reducible rfl
      rotate_left
      · simp only [Act.put, List.setIfInBounds_toArray, List.set_cons_zero, List.set_cons_succ, i64_w, i32_w]
        rfl
      refine pure_ (i := 13) (N := some 28) (v := ?_) (a' := ?_) #[Y, Y, Y, Y, Y, Y, Y, Y, Y, Y, Y, Y, Y, Y, Yn, Yn, Yn] rfl rfl (any_of HT_.out (by kernel_rfl)) (fun _ _ _ h => h) (Or.inl ⟨by rfl, ?_⟩) ?_ ?_
      rotate_left
      · intro w'
        go_simp
        with_reducible rfl
      rotate_left
      · simp only [Act.put, List.setIfInBounds_toArray, List.set_cons_zero, List.set_cons_succ, i64_w, i32_w]
        rfl
      refine pure_ (i := 14) (N := some 6) (v := ?_) (a' := ?_) #[Y, Y, Y, Y, Y, Y, Y, Y, Y, Y, Y, Y, Y, Y, Y, Yn, Yn] rfl rfl (any_of HT_.out (by kernel_rfl)) (fun _ _ _ h => h) (Or.inl ⟨by rfl, ?_⟩) ?_ ?_
      rotate_left
      · intro w'
        go_simp
        with_reducible rfl
      rotate_left
      · simp only [Act.put, List.setIfInBounds_toArray, List.set_cons_zero, List.set_cons_succ, i64_w, i32_w]
        rfl
      refine pure_ (i := 15) (N := some 7) (v := ?_) (a' := ?_) #[Y, Y, Y, Y, Y, Y, Y, Y, Y, Y, Y, Y, Y, Y, Y, Y, Yn] rfl rfl (any_of HT_.out (by kernel_rfl)) (fun _ _ _ h => h) (Or.inl ⟨by rfl, ?_⟩) ?_ ?_
      rotate_left
      · intro w'
        go_simp
        with_reducible rfl
      rotate_left
      · simp only [Act.put, List.setIfInBounds_toArray, List.set_cons_zero, List.set_cons_succ, i64_w, i32_w]
        rfl
      refine pure_ (i := 16) (N := some 8) (v := ?_) (a' := ?_) #[Y, Y, Y, Y, Y, Y, Y, Y, Y, Y, Y, Y, Y, Y, Y, Y, Y] rfl rfl (any_of HT_.out (by kernel_rfl)) (fun _ _ _ h => h) (Or.inl ⟨by rfl, ?_⟩) ?_ ?_
      rotate_left
      · intro w'
        go_simp
        with_reducible rfl
      rotate_left
      · simp only [Act.put, List.setIfInBounds_toArray, List.set_cons_zero, List.set_cons_succ, i64_w, i32_w]
        rfl
      refine done_ (done_of HT_.out (by kernel_rfl)) ?_
      obtain ⟨HGz12, hgz12⟩ := HI0.out
      have hcz12_0 := cellS102_0 HGz12
      have hcz12_1 := cellS102_1 HGz12
      have hcz12_2 := cellS102_2 HGz12
      have hfz12_0 := blk_frozen HGz12 0
      have hfz12_1 := blk_frozen HGz12 1
      have hfz12_2 := blk_frozen HGz12 2
      clear HGz12 hgz12
      try go_wp2_with (first | (go_at_call 62; go_in) | ((try simp only [Exit.inBlock, Exit.then]); refine bodyPost_end (results_none rfl _ _ _) rfl ?_; simp only []; go_at_K))
      go_ret
      exact ⟨by first | rfl | (simp [errW_none, errW_some] <;> rfl) | (simp [*, errW_none, errW_some] <;> rfl), by repeat (first | (with_reducible first | exact HI0.out | apply IsS102.alloc | apply IsS102.drewN | apply IsS102.drew | apply IsS102.set_0 | apply IsS102.set_1 | apply IsS102.set_2) | exact HI0.out), by repeat (first | (with_reducible first | exact HB.out | apply below_alloc | apply pw_below_drewN | apply below_drew1 | refine below_set ?_ (IsS102.ge HI0.out)) | exact HB.out), by repeat (first | (with_reducible first | exact HK.out | apply KeepBut.set_ | apply keep_drewN | apply keep_drew | apply keep_alloc) | exact HK.out)⟩
  · rw [if_neg c2] at H
    have c2b0 : (s0_2 == 0) = false := beq_eq_false_iff_ne.mpr c2
    have c2b1 : (s0_2 != 0) = true := bne_iff_ne.mpr c2
    simp only [Option.some.injEq, Prod.mk.injEq] at H
    obtain ⟨rfl, rfl, rfl, rfl⟩ := H
    obtain ⟨HGz13, hgz13⟩ := HI0.out
    have hcz13_0 := cellS102_0 HGz13
    have hcz13_1 := cellS102_1 HGz13
    have hcz13_2 := cellS102_2 HGz13
    have hfz13_0 := blk_frozen HGz13 0
    have hfz13_1 := blk_frozen HGz13 1
    have hfz13_2 := blk_frozen HGz13 2
    clear HGz13 hgz13
    go_enter Tryd.func59, Tryd.ntmps59
    go_wp2_with (first | (go_at_call 62; go_in) | ((try simp only [Exit.inBlock, Exit.then]); refine bodyPost_end (results_none rfl _ _ _) rfl ?_; simp only []; go_at_K))
    go_ret
    exact ⟨by first | rfl | (simp [errW_none, errW_some] <;> rfl) | (simp [*, errW_none, errW_some] <;> rfl), by repeat (first | (with_reducible first | exact HI0.out | apply IsS102.alloc | apply IsS102.drewN | apply IsS102.drew | apply IsS102.set_0 | apply IsS102.set_1 | apply IsS102.set_2) | exact HI0.out), by repeat (first | (with_reducible first | exact HB.out | apply below_alloc | apply pw_below_drewN | apply below_drew1 | refine below_set ?_ (IsS102.ge HI0.out)) | exact HB.out), by repeat (first | (with_reducible first | exact HK.out | apply KeepBut.set_ | apply keep_drewN | apply keep_drew | apply keep_alloc) | exact HK.out)⟩
end Go.Proofs.YtbccjcdmpiolpaaDoor.T
end
section
namespace Go.Proofs.YtbccjcdmpiolpaaDoor.T
open Go.RowKit Go.Proofs.YtbccjcdmpiolpaaDoorW.PrintWords Go.Proofs.YtbccjcdmpiolpaaDoorW.PrintLast Go.Proofs.YtbccjcdmpiolpaaDoorW.PrintMore
attribute [local go_sem] max2_int min2_int max_two min_two max_three min_three max_four min_four
set_option linter.unusedVariables false
set_option linter.unusedSimpArgs false
def codec_Reader_Signed_1.f (k : Nat) (a0 : ByteArray) (a1 : Int) : Option (Int × Int × Bool) := (codec_raw.f k a0 a1 4).bind fun bt139 => (some (bt139.1, bt139.2.1, bt139.2.2))
set_option maxHeartbeats 8000000 in
set_option maxRecDepth 100000 in
theorem codec_Reader_Signed_1.calls (k : Nat) (a0 : ByteArray) (a1 : Int) (r1 : Int) (r2 : Int) (r3 : Bool) (w : World) (hG : Glob w) (h : codec_Reader_Signed_1.f k a0 a1 = some (r1, r2, r3)) :
    Calls Tryd.prog 63 #[.string a0, .int .i64 a1] w fun e w' => e = .returned (.tuple #[.int .u64 r1, .int .i64 r2, .bool r3]) ∧ Below w.heap.size w w' := by
  have HG := Aside0.mk hG
  clear hG
  have HB := Aside0.mk (Below.refl w.heap.size w)
  have H : ((codec_raw.f k a0 a1 4).bind fun bt139 => (some (bt139.1, bt139.2.1, bt139.2.2))) = some (r1, r2, r3) := h
  clear h
  replace H := Option.bind_eq_some_iff.mp H
  obtain ⟨⟨t139, t140, t141⟩, A30, H⟩ := H
  replace H : (some (t139, t140, t141)) = some (r1, r2, r3) := H
  have A3 := Aside0.mk A30
  clear A30
  simp only [Option.some.injEq, Prod.mk.injEq] at H
  obtain ⟨rfl, rfl, rfl⟩ := H
  go_enter Tryd.func63, Tryd.ntmps63
  go_wp2_with (first | ((with_reducible refine gate_callee (f := 64) rfl ?_); refine goesL_ (some 9) rfl rfl Tryd.func64 (by kernel_rfl) rfl #[.string a0, .int .i64 a1, .int .i64 4] rfl (by (try simp only [List.map_toArray, List.map_cons, List.map_nil]); first | done | rfl | (simp only [List.length_drop, List.length_take]; rfl)) ?_; (with_reducible refine (codec_raw.calls k a0 a1 4 t139 t140 t141 _ ?side99  A3.out).mono ?_); (case side99 => first | exact HG.out | exact Glob.below HG.out (by repeat (first | (with_reducible first | exact HB.out | apply below_alloc | apply pw_below_drewN | apply below_drew1) | exact HB.out))); rintro e w4 ⟨rfl, hb⟩; refine ⟨_, rfl, ?_⟩; have n0_ := Aside0.mk (below_step (by repeat (first | (with_reducible first | exact HB.out | apply below_alloc | apply pw_below_drewN | apply below_drew1) | exact HB.out)) hb); clear HB; have HB := n0_; clear n0_; (try clear hb); (try clear hb2); (try clear hk); (try clear hi)))
  go_ret3
  exact ⟨by first | rfl | (simp [errW_none, errW_some] <;> rfl) | (simp [*, errW_none, errW_some] <;> rfl), by repeat (first | (with_reducible first | exact HB.out | apply below_alloc | apply pw_below_drewN | apply below_drew1) | exact HB.out)⟩
end Go.Proofs.YtbccjcdmpiolpaaDoor.T
end
section
namespace Go.Proofs.YtbccjcdmpiolpaaDoor.T
open Go.RowKit Go.Proofs.YtbccjcdmpiolpaaDoorW.PrintWords Go.Proofs.YtbccjcdmpiolpaaDoorW.PrintLast Go.Proofs.YtbccjcdmpiolpaaDoorW.PrintMore
attribute [local go_sem] max2_int min2_int max_two min_two max_three min_three max_four min_four
set_option linter.unusedVariables false
set_option linter.unusedSimpArgs false
def codec_Reader_Signed.f (k : Nat) (s0_0 : ByteArray) (s0_1 : Int) (s0_2 : Int) : Option (Int × ByteArray × Int × Int) := if s0_2 = 0 then ((codec_Reader_Signed_1.f k s0_0 s0_1).bind fun bt142 => (if bt142.2.2 = true then (some (wrap64 (bt142.1), s0_0, bt142.2.1, s0_2)) else (some (0, s0_0, s0_1, 2)))) else (some (0, s0_0, s0_1, s0_2))
def codec_Reader_Signed.T62004 : Bool × List (List Nat × List Nat) := (true, [([], []), ([], []), ([1], [1]), ([2], [2]), ([3], [3]), ([], []), ([5], [5]), ([6], [6]), ([7], [7]), ([0, 4, 8], [0, 4, 8]), ([9], [9]), ([10], [10]), ([10], [10]), ([10], [10]), ([11, 9, 0, 1, 2, 3, 4, 5, 6, 7, 8, 9, 10, 11], [11]), ([12, 14, 0, 1, 2, 3, 4, 5, 6, 7, 8, 9, 10, 11, 12, 14], [12]), ([13, 15, 0, 1, 2, 3, 4, 5, 6, 7, 8, 9, 10, 11, 12, 13, 14, 15], [13])])
def codec_Reader_Signed.B62004 : List Nat := [0, 0, 2, 6, 14, 0, 32, 96, 224, 511, 1023, 2047, 2047, 2047, 4095, 24575, 65535]
theorem codec_Reader_Signed.tab62004 : rtab .any (opsOf Tryd.f62 4) = codec_Reader_Signed.T62004 := by kernel_rfl
theorem codec_Reader_Signed.bits62004 : waitsOk codec_Reader_Signed.T62004.2 codec_Reader_Signed.B62004 = true := by kernel_rfl
set_option maxHeartbeats 8000000 in
set_option maxRecDepth 100000 in
theorem codec_Reader_Signed.calls (k : Nat) (g : Nat) (s0_0 : ByteArray) (s0_1 : Int) (s0_2 : Int) (r1 : Int) (r2 : ByteArray) (r3 : Int) (r4 : Int) (w0 w : World) (hG : Glob w0) (hI : IsS102 w0 w g s0_0 s0_1 s0_2) (hB : Below w0.heap.size w0 w) (h : codec_Reader_Signed.f k s0_0 s0_1 s0_2 = some (r1, r2, r3, r4)) :
    Calls Tryd.prog 39 #[.pointer (some ⟨g, 0, none⟩)] w fun e w' => e = .returned (.int .i64 r1) ∧ IsS102 w0 w' g r2 r3 r4 ∧ Below w0.heap.size w0 w' ∧ KeepBut w w' g none := by
  have hmf_ : ∀ (fn : Fn) (first cap : Array Value) (w : World), (Instr.makeFunc fn first cap).run Tryd.prog w = .ok (.func fn first cap) w := fun _ _ _ _ => rfl
  have HG := Aside0.mk hG
  clear hG
  have HI0 := Aside0.mk hI
  have HK := Aside0.mk (KeepBut.refl w g none)
  have HL := Aside0.mk hB.size
  clear hI
  have HW0 := Aside0.mk hB.size
  have HB := Aside0.mk hB
  clear hB
  have H : (if s0_2 = 0 then ((codec_Reader_Signed_1.f k s0_0 s0_1).bind fun bt142 => (if bt142.2.2 = true then (some (wrap64 (bt142.1), s0_0, bt142.2.1, s0_2)) else (some (0, s0_0, s0_1, 2)))) else (some (0, s0_0, s0_1, s0_2))) = some (r1, r2, r3, r4) := h
  clear h
  by_cases c2 : s0_2 = 0
  · rw [if_pos c2] at H
    have c2b0 : (s0_2 == 0) = true := beq_iff_eq.mpr c2
    have c2b1 : (s0_2 != 0) = false := bne_eq_false_iff_eq.mpr c2
    clear c2
    replace H := Option.bind_eq_some_iff.mp H
    obtain ⟨⟨t142, t143, t144⟩, A30, H⟩ := H
    replace H : (if t144 = true then (some (wrap64 (t142), s0_0, t143, s0_2)) else (some (0, s0_0, s0_1, 2))) = some (r1, r2, r3, r4) := H
    have A3 := Aside0.mk A30
    clear A30
    by_cases c4 : t144 = true
    · subst c4
      have H1 : (some (wrap64 (t142), s0_0, t143, s0_2)) = some (r1, r2, r3, r4) := by rw [if_pos rfl] at H; exact H
      clear H
      have H := H1
      clear H1
      simp only [Option.some.injEq, Prod.mk.injEq] at H
      obtain ⟨rfl, rfl, rfl, rfl⟩ := H
      obtain ⟨HGz5, hgz5⟩ := HI0.out
      have hcz5_0 := cellS102_0 HGz5
      have hcz5_1 := cellS102_1 HGz5
      have hcz5_2 := cellS102_2 HGz5
      have hfz5_0 := blk_frozen HGz5 0
      have hfz5_1 := blk_frozen HGz5 1
      have hfz5_2 := blk_frozen HGz5 2
      clear HGz5 hgz5
      go_enter Tryd.func39, Tryd.ntmps39
      try go_wp2_with (first | (go_at_call 62; go_in) | ((try simp only [Exit.inBlock, Exit.then]); refine bodyPost_end (results_none rfl _ _ _) rfl ?_; simp only []; go_at_K))
      have n0_ := Aside0.mk (IsS102.drew HI0.out)
      have n1_ := Aside0.mk (keep_drew HK.out)
      have n2_ := Aside0.mk (below_drew1 HB.out)
      clear HI0
      clear HK
      clear HB
      have HI0 := n0_
      have HK := n1_
      have HB := n2_
      clear n0_ n1_ n2_
      refine start_ (n := 17) (S := fun w' => w'.cell? ⟨g, 0, none⟩ = some (.string s0_0) ∧ w'.cell? ⟨g, 1, none⟩ = some (.int .i64 s0_1) ∧ w'.cell? ⟨g, 2, none⟩ = some (.int .i64 s0_2)) (ds := []) #[Yn, Yn, Yn, Yn, Yn, Yn, Yn, Yn, Yn, Yn, Yn, Yn, Yn, Yn, Yn, Yn, Yn] (by kernel_rfl) rfl rfl ⟨(blk_cell (Aside0.mk HI0.out.1).out 0).trans rfl, (blk_cell (Aside0.mk HI0.out.1).out 1).trans rfl, (blk_cell (Aside0.mk HI0.out.1).out 2).trans rfl⟩ (fun hHeld => ?_); refine with_tabW codec_Reader_Signed.tab62004 codec_Reader_Signed.bits62004 (fun HT_ HW_ => ?_)
      generalize w.drew = w6 at HI0 HK HB hHeld ⊢
      refine pure_ (i := 0) (N := some 16) (v := ?_) (a' := ?_) #[Y, Yn, Yn, Yn, Yn, Yn, Yn, Yn, Yn, Yn, Yn, Yn, Yn, Yn, Yn, Yn, Yn] rfl rfl (any_of HT_.out (by kernel_rfl)) (fun _ _ _ h => h) (Or.inl ⟨by rfl, ?_⟩) ?_ ?_
      rotate_left
      · intro w'
        go_simp
        with_reducible rfl
      rotate_left
      · simp only [Act.put, List.setIfInBounds_toArray, List.set_cons_zero, List.set_cons_succ, i64_w, i32_w]
        rfl
      refine pure_ (i := 1) (N := some 17) (v := ?_) (a' := ?_) #[Y, Y, Yn, Yn, Yn, Yn, Yn, Yn, Yn, Yn, Yn, Yn, Yn, Yn, Yn, Yn, Yn] rfl rfl (any_of HT_.out (by kernel_rfl)) (fun _ _ _ h => h) (Or.inl ⟨by rfl, ?_⟩) ?_ ?_
      rotate_left
      · intro w'
        go_simp
        with_reducible rfl
      rotate_left
      · simp only [Act.put, List.setIfInBounds_toArray, List.set_cons_zero, List.set_cons_succ, i64_w, i32_w]
        rfl
      refine pure_ (i := 2) (N := some 18) (v := ?_) (a' := ?_) #[Y, Y, Y, Yn, Yn, Yn, Yn, Yn, Yn, Yn, Yn, Yn, Yn, Yn, Yn, Yn, Yn] rfl rfl (any_of HT_.out (by kernel_rfl)) (fun _ _ _ h => h) (Or.inl ⟨by rfl, ?_⟩) ?_ ?_
      rotate_left
      · intro w'
        go_simp
        with_reducible rfl
      rotate_left
      · simp only [Act.put, List.setIfInBounds_toArray, List.set_cons_zero, List.set_cons_succ, i64_w, i32_w]
        rfl
      refine pure_ (i := 3) (N := some 19) (v := ?_) (a' := ?_) #[Y, Y, Y, Y, Yn, Yn, Yn, Yn, Yn, Yn, Yn, Yn, Yn, Yn, Yn, Yn, Yn] rfl rfl (any_of HT_.out (by kernel_rfl)) (fun _ _ _ h => h) (Or.inl ⟨by rfl, ?_⟩) ?_ ?_
      rotate_left
      · intro w'
        go_simp
        with_reducible rfl
      rotate_left
      · simp only [Act.put, List.setIfInBounds_toArray, List.set_cons_zero, List.set_cons_succ, i64_w, i32_w]
        rfl
      refine pure_ (i := 5) (N := some 21) (v := ?_) (a' := ?_) #[Y, Y, Y, Y, Yn, Y, Yn, Yn, Yn, Yn, Yn, Yn, Yn, Yn, Yn, Yn, Yn] rfl rfl (any_of HT_.out (by kernel_rfl)) (fun _ _ _ h => h) (Or.inl ⟨by rfl, ?_⟩) ?_ ?_
      rotate_left
      · intro w'
        go_simp
        with_reducible rfl
      rotate_left
      · simp only [Act.put, List.setIfInBounds_toArray, List.set_cons_zero, List.set_cons_succ, i64_w, i32_w]
        rfl
      refine pure_ (i := 6) (N := some 22) (v := ?_) (a' := ?_) #[Y, Y, Y, Y, Yn, Y, Y, Yn, Yn, Yn, Yn, Yn, Yn, Yn, Yn, Yn, Yn] rfl rfl (any_of HT_.out (by kernel_rfl)) (fun _ _ _ h => h) (Or.inl ⟨by rfl, ?_⟩) ?_ ?_
      rotate_left
      · intro w'
        go_simp
        with_reducible rfl
      rotate_left
      · simp only [Act.put, List.setIfInBounds_toArray, List.set_cons_zero, List.set_cons_succ, i64_w, i32_w]
        rfl
      refine pure_ (i := 7) (N := some 23) (v := ?_) (a' := ?_) #[Y, Y, Y, Y, Yn, Y, Y, Y, Yn, Yn, Yn, Yn, Yn, Yn, Yn, Yn, Yn] rfl rfl (any_of HT_.out (by kernel_rfl)) (fun _ _ _ h => h) (Or.inl ⟨by rfl, ?_⟩) ?_ ?_
      rotate_left
      · intro w'
        go_simp
        with_reducible rfl
      rotate_left
      · simp only [Act.put, List.setIfInBounds_toArray, List.set_cons_zero, List.set_cons_succ, i64_w, i32_w]
        rfl
      refine take_ (i := 4) (N := some 20) (v := ?_) (a' := ?_) #[Y, Y, Y, Y, Y, Y, Y, Y, Yn, Yn, Yn, Yn, Yn, Yn, Yn, Yn, Yn] rfl rfl (take_ofW HT_.out HW_.out (by kernel_rfl)) (fun _ _ _ h => h) (Or.inl ⟨by rfl, ?_⟩) hHeld ?_ ?_
      rotate_left
      · rintro w' ⟨s0, s1, s2⟩
        go_simp
        with_reducible rfl
      rotate_left
      · simp only [Act.put, List.setIfInBounds_toArray, List.set_cons_zero, List.set_cons_succ, i64_w, i32_w]
        rfl
      refine take_ (i := 8) (N := some 24) (v := ?_) (a' := ?_) #[Y, Y, Y, Y, Y, Y, Y, Y, Y, Yn, Yn, Yn, Yn, Yn, Yn, Yn, Yn] rfl rfl (take_ofW HT_.out HW_.out (by kernel_rfl)) (fun _ _ _ h => h) (Or.inl ⟨by rfl, ?_⟩) hHeld ?_ ?_
      rotate_left
      · rintro w' ⟨s0, s1, s2⟩
        go_simp
        with_reducible rfl
      rotate_left
      · simp only [Act.put, List.setIfInBounds_toArray, List.set_cons_zero, List.set_cons_succ, i64_w, i32_w]
        rfl
      refine one_ (i := 9) (N := some 25) #[Y, Y, Y, Y, Y, Y, Y, Y, Y, Y, Yn, Yn, Yn, Yn, Yn, Yn, Yn] rfl rfl (one_of HT_.out (by kernel_rfl)) (by decide) (fun K hK => ?_)
      refine goesT_ Tryd.func63 (by kernel_rfl) rfl #[.string s0_0, .int .i64 s0_1] (by rfl) rfl rfl rfl (by (try simp only [List.map_toArray, List.map_cons, List.map_nil]); first | done | rfl | (simp only [List.length_drop, List.length_take]; rfl)) ?_
      with_reducible refine (codec_Reader_Signed_1.calls k s0_0 s0_1 t142 t143 true _ ?side99  A3.out).mono ?_
      (case side99 => first | exact HG.out | exact Glob.below HG.out (by repeat (first | (with_reducible first | exact HB.out | apply below_alloc | apply pw_below_drewN | apply below_drew1 | refine below_set ?_ (IsS102.ge HI0.out)) | exact HB.out)))
      rintro e w7 ⟨rfl, hb⟩
      refine ⟨_, rfl, ?_⟩
      have n0_ := Aside0.mk (IsS102.below (by repeat (first | (with_reducible first | exact HI0.out | apply IsS102.alloc | apply IsS102.drewN | apply IsS102.drew | apply IsS102.set_0 | apply IsS102.set_1 | apply IsS102.set_2) | exact HI0.out)) hb)
      have n1_ := Aside0.mk (KeepBut.trans (by repeat (first | (with_reducible first | exact HK.out | apply KeepBut.set_ | apply keep_drewN | apply keep_drew | apply keep_alloc) | exact HK.out)) (KeepBut.of_below hb g none) (.inl rfl))
      have n2_ := Aside0.mk (below_step (by repeat (first | (with_reducible first | exact HB.out | apply below_alloc | apply pw_below_drewN | apply below_drew1 | refine below_set ?_ (IsS102.ge HI0.out)) | exact HB.out)) hb)
      clear HI0
      clear HK
      clear HB
      have HI0 := n0_
      have HK := n1_
      have HB := n2_
      clear n0_ n1_ n2_
      (try clear hb)
      (try clear hb2)
      (try clear hk)
      (try clear hi)
      refine hK.out _ _ ⟨(blk_cell (Aside0.mk HI0.out.1).out 0).trans rfl, (blk_cell (Aside0.mk HI0.out.1).out 1).trans rfl, (blk_cell (Aside0.mk HI0.out.1).out 2).trans rfl⟩ (fun hHeld => ?_)
      clear hK K
      refine norm_ (a' := ?_) ?_ ?_
      rotate_left
      · show Act.put _ (some 25) _ = _
        simp only [Act.put, List.setIfInBounds_toArray, List.set_cons_zero, List.set_cons_succ, i64_w, i32_w]
        rfl
      refine pure_ (i := 10) (N := some 15) (v := ?_) (a' := ?_) #[Y, Y, Y, Y, Y, Y, Y, Y, Y, Y, Y, Yn, Yn, Yn, Yn, Yn, Yn] rfl rfl (any_of HT_.out (by kernel_rfl)) (fun _ _ _ h => h) (Or.inl ⟨by rfl, ?_⟩) ?_ ?_
      rotate_left
      · intro w'
        go_simp
        with_reducible rfl
      rotate_left
      · simp only [Act.put, List.setIfInBounds_toArray, List.set_cons_zero, List.set_cons_succ, i64_w, i32_w]
        rfl
      refine pure_ (i := 11) (N := some 26) (v := ?_) (a' := ?_) #[Y, Y, Y, Y, Y, Y, Y, Y, Y, Y, Y, Y, Yn, Yn, Yn, Yn, Yn] rfl rfl (any_of HT_.out (by kernel_rfl)) (fun _ _ _ h => h) (Or.inl ⟨by rfl, ?_⟩) ?_ ?_
      rotate_left
      · intro w'
        go_simp
        with_reducible rfl
      rotate_left
      · simp only [Act.put, List.setIfInBounds_toArray, List.set_cons_zero, List.set_cons_succ, i64_w, i32_w]
        rfl
      refine pure_ (i := 12) (N := some 27) (v := ?_) (a' := ?_) #[Y, Y, Y, Y, Y, Y, Y, Y, Y, Y, Y, Y, Y, Yn, Yn, Yn, Yn] rfl rfl (any_of HT_.out (by kernel_rfl)) (fun _ _ _ h => h) (Or.inl ⟨by rfl, ?_⟩) ?_ ?_
      rotate_left
      · intro w'
        go_simp
        with_reducible rfl
      rotate_left
      · simp only [Act.put, List.setIfInBounds_toArray, List.set_cons_zero, List.set_cons_succ, i64_w, i32_w]
        rfl
      refine pure_ (i := 13) (N := some 28) (v := ?_) (a' := ?_) #[Y, Y, Y, Y, Y, Y, Y, Y, Y, Y, Y, Y, Y, Y, Yn, Yn, Yn] rfl rfl (any_of HT_.out (by kernel_rfl)) (fun _ _ _ h => h) (Or.inl ⟨by rfl, ?_⟩) ?_ ?_
      rotate_left
      · intro w'
        go_simp
        with_reducible rfl
      rotate_left
      · simp only [Act.put, List.setIfInBounds_toArray, List.set_cons_zero, List.set_cons_succ, i64_w, i32_w]
        rfl
      refine pure_ (i := 14) (N := some 6) (v := ?_) (a' := ?_) #[Y, Y, Y, Y, Y, Y, Y, Y, Y, Y, Y, Y, Y, Y, Y, Yn, Yn] rfl rfl (any_of HT_.out (by kernel_rfl)) (fun _ _ _ h => h) (Or.inl ⟨by rfl, ?_⟩) ?_ ?_
      rotate_left
      · intro w'
        go_simp
        with_reducible rfl
      rotate_left
      · simp only [Act.put, List.setIfInBounds_toArray, List.set_cons_zero, List.set_cons_succ, i64_w, i32_w]
        rfl
      refine pure_ (i := 15) (N := some 7) (v := ?_) (a' := ?_) #[Y, Y, Y, Y, Y, Y, Y, Y, Y, Y, Y, Y, Y, Y, Y, Y, Yn] rfl rfl (any_of HT_.out (by kernel_rfl)) (fun _ _ _ h => h) (Or.inl ⟨by rfl, ?_⟩) ?_ ?_
      rotate_left
      · intro w'
        go_simp
        with_reducible rfl
      rotate_left
      · simp only [Act.put, List.setIfInBounds_toArray, List.set_cons_zero, List.set_cons_succ, i64_w, i32_w]
        rfl
      refine pure_ (i := 16) (N := some 8) (v := ?_) (a' := ?_) #[Y, Y, Y, Y, Y, Y, Y, Y, Y, Y, Y, Y, Y, Y, Y, Y, Y] rfl rfl (any_of HT_.out (by kernel_rfl)) (fun _ _ _ h => h) (Or.inl ⟨by rfl, ?_⟩) ?_ ?_
      rotate_left
      · intro w'
        go_simp
        with_reducible rfl
      rotate_left
      · simp only [Act.put, List.setIfInBounds_toArray, List.set_cons_zero, List.set_cons_succ, i64_w, i32_w]
        rfl
      refine done_ (done_of HT_.out (by kernel_rfl)) ?_
      obtain ⟨HGz8, hgz8⟩ := HI0.out
      have hcz8_0 := cellS102_0 HGz8
      have hcz8_1 := cellS102_1 HGz8
      have hcz8_2 := cellS102_2 HGz8
      have hfz8_0 := blk_frozen HGz8 0
      have hfz8_1 := blk_frozen HGz8 1
      have hfz8_2 := blk_frozen HGz8 2
      clear HGz8 hgz8
      try go_wp2_with (first | (go_at_call 62; go_in) | ((try simp only [Exit.inBlock, Exit.then]); refine bodyPost_end (results_none rfl _ _ _) rfl ?_; simp only []; go_at_K))
      go_ret
      exact ⟨by first | rfl | (simp [errW_none, errW_some] <;> rfl) | (simp [*, errW_none, errW_some] <;> rfl), by repeat (first | (with_reducible first | exact HI0.out | apply IsS102.alloc | apply IsS102.drewN | apply IsS102.drew | apply IsS102.set_0 | apply IsS102.set_1 | apply IsS102.set_2) | exact HI0.out), by repeat (first | (with_reducible first | exact HB.out | apply below_alloc | apply pw_below_drewN | apply below_drew1 | refine below_set ?_ (IsS102.ge HI0.out)) | exact HB.out), by repeat (first | (with_reducible first | exact HK.out | apply KeepBut.set_ | apply keep_drewN | apply keep_drew | apply keep_alloc) | exact HK.out)⟩
    · replace c4 := Bool.eq_false_iff.mpr c4
      subst c4
      have H1 : (some (0, s0_0, s0_1, 2)) = some (r1, r2, r3, r4) := by rw [if_neg (show ¬ (false = true) by decide)] at H; exact H
      clear H
      have H := H1
      clear H1
      simp only [Option.some.injEq, Prod.mk.injEq] at H
      obtain ⟨rfl, rfl, rfl, rfl⟩ := H
      obtain ⟨HGz9, hgz9⟩ := HI0.out
      have hcz9_0 := cellS102_0 HGz9
      have hcz9_1 := cellS102_1 HGz9
      have hcz9_2 := cellS102_2 HGz9
      have hfz9_0 := blk_frozen HGz9 0
      have hfz9_1 := blk_frozen HGz9 1
      have hfz9_2 := blk_frozen HGz9 2
      clear HGz9 hgz9
      go_enter Tryd.func39, Tryd.ntmps39
      try go_wp2_with (first | (go_at_call 62; go_in) | ((try simp only [Exit.inBlock, Exit.then]); refine bodyPost_end (results_none rfl _ _ _) rfl ?_; simp only []; go_at_K))
      have n0_ := Aside0.mk (IsS102.drew HI0.out)
      have n1_ := Aside0.mk (keep_drew HK.out)
      have n2_ := Aside0.mk (below_drew1 HB.out)
      clear HI0
      clear HK
      clear HB
      have HI0 := n0_
      have HK := n1_
      have HB := n2_
      clear n0_ n1_ n2_
      refine start_ (n := 17) (S := fun w' => w'.cell? ⟨g, 0, none⟩ = some (.string s0_0) ∧ w'.cell? ⟨g, 1, none⟩ = some (.int .i64 s0_1) ∧ w'.cell? ⟨g, 2, none⟩ = some (.int .i64 s0_2)) (ds := []) #[Yn, Yn, Yn, Yn, Yn, Yn, Yn, Yn, Yn, Yn, Yn, Yn, Yn, Yn, Yn, Yn, Yn] (by kernel_rfl) rfl rfl ⟨(blk_cell (Aside0.mk HI0.out.1).out 0).trans rfl, (blk_cell (Aside0.mk HI0.out.1).out 1).trans rfl, (blk_cell (Aside0.mk HI0.out.1).out 2).trans rfl⟩ (fun hHeld => ?_); refine with_tabW codec_Reader_Signed.tab62004 codec_Reader_Signed.bits62004 (fun HT_ HW_ => ?_)
      generalize w.drew = w10 at HI0 HK HB hHeld ⊢
      refine pure_ (i := 0) (N := some 16) (v := ?_) (a' := ?_) #[Y, Yn, Yn, Yn, Yn, Yn, Yn, Yn, Yn, Yn, Yn, Yn, Yn, Yn, Yn, Yn, Yn] rfl rfl (any_of HT_.out (by kernel_rfl)) (fun _ _ _ h => h) (Or.inl ⟨by rfl, ?_⟩) ?_ ?_
      rotate_left
      · intro w'
        go_simp
        with_reducible rfl
      rotate_left
      · simp only [Act.put, List.setIfInBounds_toArray, List.set_cons_zero, List.set_cons_succ, i64_w, i32_w]
        rfl
      refine pure_ (i := 1) (N := some 17) (v := ?_) (a' := ?_) #[Y, Y, Yn, Yn, Yn, Yn, Yn, Yn, Yn, Yn, Yn, Yn, Yn, Yn, Yn, Yn, Yn] rfl rfl (any_of HT_.out (by kernel_rfl)) (fun _ _ _ h => h) (Or.inl ⟨by rfl, ?_⟩) ?_ ?_
      rotate_left
      · intro w'
        go_simp
        with_reducible rfl
      rotate_left
      · simp only [Act.put, List.setIfInBounds_toArray, List.set_cons_zero, List.set_cons_succ, i64_w, i32_w]
        rfl
      refine pure_ (i := 2) (N := some 18) (v := ?_) (a' := ?_) #[Y, Y, Y, Yn, Yn, Yn, Yn, Yn, Yn, Yn, Yn, Yn, Yn, Yn, Yn, Yn, Yn] rfl rfl (any_of HT_.out (by kernel_rfl)) (fun _ _ _ h => h) (Or.inl ⟨by rfl, ?_⟩) ?_ ?_
      rotate_left
      · intro w'
        go_simp
        with_reducible rfl
      rotate_left
      · simp only [Act.put, List.setIfInBounds_toArray, List.set_cons_zero, List.set_cons_succ, i64_w, i32_w]
        rfl
      refine pure_ (i := 3) (N := some 19) (v := ?_) (a' := ?_) #[Y, Y, Y, Y, Yn, Yn, Yn, Yn, Yn, Yn, Yn, Yn, Yn, Yn, Yn, Yn, Yn] rfl rfl (any_of HT_.out (by kernel_rfl)) (fun _ _ _ h => h) (Or.inl ⟨by rfl, ?_⟩) ?_ ?_
      rotate_left
      · intro w'
        go_simp
        with_reducible rfl
      rotate_left
      · simp only [Act.put, List.setIfInBounds_toArray, List.set_cons_zero, List.set_cons_succ, i64_w, i32_w]
        rfl
      refine pure_ (i := 5) (N := some 21) (v := ?_) (a' := ?_) #[Y, Y, Y, Y, Yn, Y, Yn, Yn, Yn, Yn, Yn, Yn, Yn, Yn, Yn, Yn, Yn] rfl rfl (any_of HT_.out (by kernel_rfl)) (fun _ _ _ h => h) (Or.inl ⟨by rfl, ?_⟩) ?_ ?_
      rotate_left
      · intro w'
        go_simp
        with_reducible rfl
      rotate_left
      · simp only [Act.put, List.setIfInBounds_toArray, List.set_cons_zero, List.set_cons_succ, i64_w, i32_w]
        rfl
      refine pure_ (i := 6) (N := some 22) (v := ?_) (a' := ?_) #[Y, Y, Y, Y, Yn, Y, Y, Yn, Yn, Yn, Yn, Yn, Yn, Yn, Yn, Yn, Yn] rfl rfl (any_of HT_.out (by kernel_rfl)) (fun _ _ _ h => h) (Or.inl ⟨by rfl, ?_⟩) ?_ ?_
      rotate_left
      · intro w'
        go_simp
        with_reducible rfl
      rotate_left
      · simp only [Act.put, List.setIfInBounds_toArray, List.set_cons_zero, List.set_cons_succ, i64_w, i32_w]
        rfl
      refine pure_ (i := 7) (N := some 23) (v := ?_) (a' := ?_) #[Y, Y, Y, Y, Yn, Y, Y, Y, Yn, Yn, Yn, Yn, Yn, Yn, Yn, Yn, Yn] rfl rfl (any_of HT_.out (by kernel_rfl)) (fun _ _ _ h => h) (Or.inl ⟨by rfl, ?_⟩) ?_ ?_
      rotate_left
      · intro w'
        go_simp
        with_reducible rfl
      rotate_left
      · simp only [Act.put, List.setIfInBounds_toArray, List.set_cons_zero, List.set_cons_succ, i64_w, i32_w]
        rfl
      refine take_ (i := 4) (N := some 20) (v := ?_) (a' := ?_) #[Y, Y, Y, Y, Y, Y, Y, Y, Yn, Yn, Yn, Yn, Yn, Yn, Yn, Yn, Yn] rfl rfl (take_ofW HT_.out HW_.out (by kernel_rfl)) (fun _ _ _ h => h) (Or.inl ⟨by rfl, ?_⟩) hHeld ?_ ?_
      rotate_left
      · rintro w' ⟨s0, s1, s2⟩
        go_simp
        with_reducible rfl
      rotate_left
      · simp only [Act.put, List.setIfInBounds_toArray, List.set_cons_zero, List.set_cons_succ, i64_w, i32_w]
        rfl
      refine take_ (i := 8) (N := some 24) (v := ?_) (a' := ?_) #[Y, Y, Y, Y, Y, Y, Y, Y, Y, Yn, Yn, Yn, Yn, Yn, Yn, Yn, Yn] rfl rfl (take_ofW HT_.out HW_.out (by kernel_rfl)) (fun _ _ _ h => h) (Or.inl ⟨by rfl, ?_⟩) hHeld ?_ ?_
      rotate_left
      · rintro w' ⟨s0, s1, s2⟩
        go_simp
        with_reducible rfl
      rotate_left
      · simp only [Act.put, List.setIfInBounds_toArray, List.set_cons_zero, List.set_cons_succ, i64_w, i32_w]
        rfl
      refine one_ (i := 9) (N := some 25) #[Y, Y, Y, Y, Y, Y, Y, Y, Y, Y, Yn, Yn, Yn, Yn, Yn, Yn, Yn] rfl rfl (one_of HT_.out (by kernel_rfl)) (by decide) (fun K hK => ?_)
      refine goesT_ Tryd.func63 (by kernel_rfl) rfl #[.string s0_0, .int .i64 s0_1] (by rfl) rfl rfl rfl (by (try simp only [List.map_toArray, List.map_cons, List.map_nil]); first | done | rfl | (simp only [List.length_drop, List.length_take]; rfl)) ?_
      with_reducible refine (codec_Reader_Signed_1.calls k s0_0 s0_1 t142 t143 false _ ?side99  A3.out).mono ?_
      (case side99 => first | exact HG.out | exact Glob.below HG.out (by repeat (first | (with_reducible first | exact HB.out | apply below_alloc | apply pw_below_drewN | apply below_drew1 | refine below_set ?_ (IsS102.ge HI0.out)) | exact HB.out)))
      rintro e w11 ⟨rfl, hb⟩
      refine ⟨_, rfl, ?_⟩
      have n0_ := Aside0.mk (IsS102.below (by repeat (first | (with_reducible first | exact HI0.out | apply IsS102.alloc | apply IsS102.drewN | apply IsS102.drew | apply IsS102.set_0 | apply IsS102.set_1 | apply IsS102.set_2) | exact HI0.out)) hb)
      have n1_ := Aside0.mk (KeepBut.trans (by repeat (first | (with_reducible first | exact HK.out | apply KeepBut.set_ | apply keep_drewN | apply keep_drew | apply keep_alloc) | exact HK.out)) (KeepBut.of_below hb g none) (.inl rfl))
      have n2_ := Aside0.mk (below_step (by repeat (first | (with_reducible first | exact HB.out | apply below_alloc | apply pw_below_drewN | apply below_drew1 | refine below_set ?_ (IsS102.ge HI0.out)) | exact HB.out)) hb)
      clear HI0
      clear HK
      clear HB
      have HI0 := n0_
      have HK := n1_
      have HB := n2_
      clear n0_ n1_ n2_
      (try clear hb)
      (try clear hb2)
      (try clear hk)
      (try clear hi)
      refine hK.out _ _ ⟨(blk_cell (Aside0.mk HI0.out.1).out 0).trans rfl, (blk_cell (Aside0.mk HI0.out.1).out 1).trans rfl, (blk_cell (Aside0.mk HI0.out.1).out 2).trans rfl⟩ (fun hHeld => ?_)
      clear hK K
      refine norm_ (a' := ?_) ?_ ?_
      rotate_left
      · show Act.put _ (some 25) _ = _
        simp only [Act.put, List.setIfInBounds_toArray, List.set_cons_zero, List.set_cons_succ, i64_w, i32_w]
        rfl
      refine pure_ (i := 10) (N := some 15) (v := ?_) (a' := ?_) #[Y, Y, Y, Y, Y, Y, Y, Y, Y, Y, Y, Yn, Yn, Yn, Yn, Yn, Yn] rfl rfl (any_of HT_.out (by kernel_rfl)) (fun _ _ _ h => h) (Or.inl ⟨by rfl, ?_⟩) ?_ ?_
      rotate_left
      · intro w'
        go_simp
        with_reducible rfl
      rotate_left
      · simp only [Act.put, List.setIfInBounds_toArray, List.set_cons_zero, List.set_cons_succ, i64_w, i32_w]
        rfl
      refine pure_ (i := 11) (N := some 26) (v := ?_) (a' := ?_) #[Y, Y, Y, Y, Y, Y, Y, Y, Y, Y, Y, Y, Yn, Yn, Yn, Yn, Yn] rfl rfl (any_of HT_.out (by kernel_rfl)) (fun _ _ _ h => h) (Or.inl ⟨by rfl, ?_⟩) ?_ ?_
      rotate_left
      · intro w'
        go_simp
        with_reducible rfl
      rotate_left
      · simp only [Act.put, List.setIfInBounds_toArray, List.set_cons_zero, List.set_cons_succ, i64_w, i32_w]
        rfl
      refine pure_ (i := 12) (N := some 27) (v := ?_) (a' := ?_) #[Y, Y, Y, Y, Y, Y, Y, Y, Y, Y, Y, Y, Y, Yn, Yn, Yn, Yn] rfl rfl (any_of HT_.out (by kernel_rfl)) (fun _ _ _ h => h) (Or.inl ⟨by rfl, ?_⟩) ?_ ?_
      rotate_left
      · intro w'
        go_simp
        with_reducible rfl
      rotate_left
      · simp only [Act.put, List.setIfInBounds_toArray, List.set_cons_zero, List.set_cons_succ, i64_w, i32_w]
        rfl
      refine pure_ (i := 13) (N := some 28) (v := ?_) (a' := ?_) #[Y, Y, Y, Y, Y, Y, Y, Y, Y, Y, Y, Y, Y, Y, Yn, Yn, Yn] rfl rfl (any_of HT_.out (by kernel_rfl)) (fun _ _ _ h => h) (Or.inl ⟨by rfl, ?_⟩) ?_ ?_
      rotate_left
      · intro w'
        go_simp
        with_reducible rfl
      rotate_left
      · simp only [Act.put, List.setIfInBounds_toArray, List.set_cons_zero, List.set_cons_succ, i64_w, i32_w]
        rfl
      refine pure_ (i := 14) (N := some 6) (v := ?_) (a' := ?_) #[Y, Y, Y, Y, Y, Y, Y, Y, Y, Y, Y, Y, Y, Y, Y, Yn, Yn] rfl rfl (any_of HT_.out (by kernel_rfl)) (fun _ _ _ h => h) (Or.inl ⟨by rfl, ?_⟩) ?_ ?_
      rotate_left
      · intro w'
        go_simp
        with_reducible rfl
      rotate_left
      · simp only [Act.put, List.setIfInBounds_toArray, List.set_cons_zero, List.set_cons_succ, i64_w, i32_w]
        rfl
      refine pure_ (i := 15) (N := some 7) (v := ?_) (a' := ?_) #[Y, Y, Y, Y, Y, Y, Y, Y, Y, Y, Y, Y, Y, Y, Y, Y, Yn] rfl rfl (any_of HT_.out (by kernel_rfl)) (fun _ _ _ h => h) (Or.inl ⟨by rfl, ?_⟩) ?_ ?_
      rotate_left
      · intro w'
        go_simp
        with_reducible rfl
      rotate_left
      · simp only [Act.put, List.setIfInBounds_toArray, List.set_cons_zero, List.set_cons_succ, i64_w, i32_w]
        rfl
      refine pure_ (i := 16) (N := some 8) (v := ?_) (a' := ?_) #[Y, Y, Y, Y, Y, Y, Y, Y, Y, Y, Y, Y, Y, Y, Y, Y, Y] rfl rfl (any_of HT_.out (by kernel_rfl)) (fun _ _ _ h => h) (Or.inl ⟨by rfl, ?_⟩) ?_ ?_
      rotate_left
      · intro w'
        go_simp
        with_reducible rfl
      rotate_left
      · simp only [Act.put, List.setIfInBounds_toArray, List.set_cons_zero, List.set_cons_succ, i64_w, i32_w]
        rfl
      refine done_ (done_of HT_.out (by kernel_rfl)) ?_
      obtain ⟨HGz12, hgz12⟩ := HI0.out
      have hcz12_0 := cellS102_0 HGz12
      have hcz12_1 := cellS102_1 HGz12
      have hcz12_2 := cellS102_2 HGz12
      have hfz12_0 := blk_frozen HGz12 0
      have hfz12_1 := blk_frozen HGz12 1
      have hfz12_2 := blk_frozen HGz12 2
      clear HGz12 hgz12
      try go_wp2_with (first | (go_at_call 62; go_in) | ((try simp only [Exit.inBlock, Exit.then]); refine bodyPost_end (results_none rfl _ _ _) rfl ?_; simp only []; go_at_K))
      go_ret
      exact ⟨by first | rfl | (simp [errW_none, errW_some] <;> rfl) | (simp [*, errW_none, errW_some] <;> rfl), by repeat (first | (with_reducible first | exact HI0.out | apply IsS102.alloc | apply IsS102.drewN | apply IsS102.drew | apply IsS102.set_0 | apply IsS102.set_1 | apply IsS102.set_2) | exact HI0.out), by repeat (first | (with_reducible first | exact HB.out | apply below_alloc | apply pw_below_drewN | apply below_drew1 | refine below_set ?_ (IsS102.ge HI0.out)) | exact HB.out), by repeat (first | (with_reducible first | exact HK.out | apply KeepBut.set_ | apply keep_drewN | apply keep_drew | apply keep_alloc) | exact HK.out)⟩
  · rw [if_neg c2] at H
    have c2b0 : (s0_2 == 0) = false := beq_eq_false_iff_ne.mpr c2
    have c2b1 : (s0_2 != 0) = true := bne_iff_ne.mpr c2
    simp only [Option.some.injEq, Prod.mk.injEq] at H
    obtain ⟨rfl, rfl, rfl, rfl⟩ := H
    obtain ⟨HGz13, hgz13⟩ := HI0.out
    have hcz13_0 := cellS102_0 HGz13
    have hcz13_1 := cellS102_1 HGz13
    have hcz13_2 := cellS102_2 HGz13
    have hfz13_0 := blk_frozen HGz13 0
    have hfz13_1 := blk_frozen HGz13 1
    have hfz13_2 := blk_frozen HGz13 2
    clear HGz13 hgz13
    go_enter Tryd.func39, Tryd.ntmps39
    go_wp2_with (first | (go_at_call 62; go_in) | ((try simp only [Exit.inBlock, Exit.then]); refine bodyPost_end (results_none rfl _ _ _) rfl ?_; simp only []; go_at_K))
    go_ret
    exact ⟨by first | rfl | (simp [errW_none, errW_some] <;> rfl) | (simp [*, errW_none, errW_some] <;> rfl), by repeat (first | (with_reducible first | exact HI0.out | apply IsS102.alloc | apply IsS102.drewN | apply IsS102.drew | apply IsS102.set_0 | apply IsS102.set_1 | apply IsS102.set_2) | exact HI0.out), by repeat (first | (with_reducible first | exact HB.out | apply below_alloc | apply pw_below_drewN | apply below_drew1 | refine below_set ?_ (IsS102.ge HI0.out)) | exact HB.out), by repeat (first | (with_reducible first | exact HK.out | apply KeepBut.set_ | apply keep_drewN | apply keep_drew | apply keep_alloc) | exact HK.out)⟩
end Go.Proofs.YtbccjcdmpiolpaaDoor.T
end
section
namespace Go.Proofs.YtbccjcdmpiolpaaDoor.Pure
open Go.RowKit Go.Proofs.YtbccjcdmpiolpaaDoor.T Go.Proofs.YtbccjcdmpiolpaaDoorW.PrintWords Go.Proofs.YtbccjcdmpiolpaaDoorW.PrintLast Go.Proofs.YtbccjcdmpiolpaaDoorW.PrintMore
set_option linter.unusedVariables false
theorem rd_err (k : Nat) (s : ByteArray) (p : Int) : codec_Reader_Unsigned.f k s p 2 = some (0, s, p, 2) ∧ codec_Reader_Signed.f k s p 2 = some (0, s, p, 2) ∧ codec_Reader_Text.f k s p 2 = some ((⟨#[]⟩ : ByteArray), s, p, 2) ∧ codec_Reader_List.f k s p 2 = some (0, s, p, 2) :=
  ⟨rfl, rfl, rfl, rfl⟩
def rdU (s : ByteArray) (p : Int) : Int × ByteArray × Int × Int := match uS s p with | some (v, e) => (v, s, e, 0) | none => (0, s, p, 2)
def rdS (s : ByteArray) (p : Int) : Int × ByteArray × Int × Int := match sS s p with | some (v, e) => (v, s, e, 0) | none => (0, s, p, 2)
def rdT (s : ByteArray) (p : Int) : ByteArray × ByteArray × Int × Int := match tS s p with | some (v, e) => (v, s, e, 0) | none => ((⟨#[]⟩ : ByteArray), s, p, 2)
def rdL (s : ByteArray) (p : Int) : Int × ByteArray × Int × Int := match lS s p with | some (v, e) => (v, s, e, 0) | none => (0, s, p, 2)
theorem rd_unsigned (k : Nat) (s : ByteArray) (p : Int) (hz : s.size ≤ 140737488355327) : codec_Reader_Unsigned.f (k + 12) s p 0 = some (rdU s p) := by
  unfold codec_Reader_Unsigned.f codec_Reader_Unsigned_1.f rdU
  rw [if_pos rfl, raw_eq k s p 3 (Or.inl rfl) hz, Option.bind_some, Option.bind_some]
  cases e : uS s p with
  | some x =>
    obtain ⟨v, q⟩ := x
    rw [(rawS3 s p).1 v q e, if_pos rfl]
  | none => rw [if_neg (by rw [(rawS3 s p).2 e]; exact Bool.false_ne_true)]
theorem rd_signed (k : Nat) (s : ByteArray) (p : Int) (hz : s.size ≤ 140737488355327) : codec_Reader_Signed.f (k + 12) s p 0 = some (rdS s p) := by
  unfold codec_Reader_Signed.f codec_Reader_Signed_1.f rdS
  rw [if_pos rfl, raw_eq k s p 4 (Or.inr rfl) hz, Option.bind_some, Option.bind_some]
  cases e : sS s p with
  | some x =>
    obtain ⟨v, q⟩ := x
    have hr := sS_some e
    rw [(rawS4 s p).1 v q e, if_pos rfl]
    have : wrap64 (IntKind.u64.wrap v) = v := by rw [u64w]; unfold wrap64; omega
    rw [this]
  | none => rw [if_neg (by rw [(rawS4 s p).2 e]; exact Bool.false_ne_true)]
theorem rd_text (k : Nat) (s : ByteArray) (p : Int) (hz : s.size ≤ 140737488355327) : codec_Reader_Text.f (k + 12) s p 0 = some (rdT s p) := by
  unfold codec_Reader_Text.f rdT
  rw [if_pos rfl, text_eq k s p hz, Option.bind_some]
  cases e : tS s p with
  | some x => obtain ⟨v, q⟩ := x; rw [optT_some, if_pos rfl]
  | none => rw [optT_none, if_neg Bool.false_ne_true]
theorem rd_list (k : Nat) (s : ByteArray) (p : Int) (hz : s.size ≤ 140737488355327) : codec_Reader_List.f (k + 12) s p 0 = some (rdL s p) := by
  unfold codec_Reader_List.f rdL
  rw [if_pos rfl, list_eq k s p hz, Option.bind_some]
  cases e : lS s p with
  | some x => obtain ⟨v, q⟩ := x; rw [opt3_some, if_pos rfl]
  | none => rw [opt3_none, if_neg Bool.false_ne_true]
end Go.Proofs.YtbccjcdmpiolpaaDoor.Pure
end
section
namespace Go.Proofs.YtbccjcdmpiolpaaDoor.T
open Go.RowKit Go.Proofs.YtbccjcdmpiolpaaDoorW.PrintWords Go.Proofs.YtbccjcdmpiolpaaDoorW.PrintLast Go.Proofs.YtbccjcdmpiolpaaDoorW.PrintMore
attribute [local go_sem] max2_int min2_int max_two min_two max_three min_three max_four min_four
set_option linter.unusedVariables false
set_option linter.unusedSimpArgs false
def codec_Reader_Err.f (s0_0 : ByteArray) (s0_1 : Int) (s0_2 : Int) : Option (Int × ByteArray × Int × Int) := some (s0_2, s0_0, s0_1, s0_2)
set_option maxHeartbeats 8000000 in
set_option maxRecDepth 100000 in
theorem codec_Reader_Err.calls (g : Nat) (s0_0 : ByteArray) (s0_1 : Int) (s0_2 : Int) (r1 : Int) (r2 : ByteArray) (r3 : Int) (r4 : Int) (w0 w : World) (hG : Glob w0) (hI : IsS102 w0 w g s0_0 s0_1 s0_2) (hB : Below w0.heap.size w0 w) (h : codec_Reader_Err.f s0_0 s0_1 s0_2 = some (r1, r2, r3, r4)) :
    Calls Tryd.prog 38 #[.pointer (some ⟨g, 0, none⟩)] w fun e w' => e = .returned (.int .i64 r1) ∧ IsS102 w0 w' g r2 r3 r4 ∧ Below w0.heap.size w0 w' ∧ KeepBut w w' g none := by
  have HG := Aside0.mk hG
  clear hG
  have HI0 := Aside0.mk hI
  have HK := Aside0.mk (KeepBut.refl w g none)
  have HL := Aside0.mk hB.size
  clear hI
  have HW0 := Aside0.mk hB.size
  have HB := Aside0.mk hB
  clear hB
  have H : (some (s0_2, s0_0, s0_1, s0_2)) = some (r1, r2, r3, r4) := h
  clear h
  simp only [Option.some.injEq, Prod.mk.injEq] at H
  obtain ⟨rfl, rfl, rfl, rfl⟩ := H
  obtain ⟨HGz2, hgz2⟩ := HI0.out
  have hcz2_0 := cellS102_0 HGz2
  have hcz2_1 := cellS102_1 HGz2
  have hcz2_2 := cellS102_2 HGz2
  have hfz2_0 := blk_frozen HGz2 0
  have hfz2_1 := blk_frozen HGz2 1
  have hfz2_2 := blk_frozen HGz2 2
  clear HGz2 hgz2
  go_enter Tryd.func38, Tryd.ntmps38
  go_wp2
  go_ret
  exact ⟨by first | rfl | (simp [errW_none, errW_some] <;> rfl) | (simp [*, errW_none, errW_some] <;> rfl), by repeat (first | (with_reducible first | exact HI0.out | apply IsS102.alloc | apply IsS102.drewN | apply IsS102.drew | apply IsS102.set_0 | apply IsS102.set_1 | apply IsS102.set_2) | exact HI0.out), by repeat (first | (with_reducible first | exact HB.out | apply below_alloc | apply pw_below_drewN | apply below_drew1 | refine below_set ?_ (IsS102.ge HI0.out)) | exact HB.out), by repeat (first | (with_reducible first | exact HK.out | apply KeepBut.set_ | apply keep_drewN | apply keep_drew | apply keep_alloc) | exact HK.out)⟩
end Go.Proofs.YtbccjcdmpiolpaaDoor.T
end
section
namespace Go.Proofs.YtbccjcdmpiolpaaDoor.T
open Go.RowKit Go.Proofs.YtbccjcdmpiolpaaDoor.Pure Go.Proofs.YtbccjcdmpiolpaaDoorW.PrintWords Go.Proofs.YtbccjcdmpiolpaaDoorW.PrintLast Go.Proofs.YtbccjcdmpiolpaaDoorW.PrintMore
set_option linter.unusedVariables false
set_option linter.unusedSimpArgs false
attribute [local go_sem] max2_int min2_int max_two min_two
structure TRX (w0 w : World) (gR gr : Nat) (s : ByteArray) (ok : Bool) (p e : Int) : Prop where
  box : w.heap[gR]? = some (.cells #[.pointer (some ⟨gr, 0, none⟩), .bool ok] 78 (0, 0))
  rd : IsS102 w0 w gr s p e
  err : e = 0 ∨ e = 2
  low : w0.heap.size ≤ gR
structure St (o : Option Int) (ok : Bool) (p e : Int) : Prop where
  good : ∀ q, o = some q → ok = true ∧ p = q ∧ e = 0
  bad : o = none → ¬ (ok = true ∧ e = 0)
def TRS (w0 w : World) (gR gr : Nat) (s : ByteArray) (o : Option Int) : Prop := ∃ ok p e, TRX w0 w gR gr s ok p e ∧ St o ok p e
structure KeepQ (w w' : World) : Prop where
  size : w.heap.size ≤ w'.heap.size
  keep : ∀ (k : Nat) cs t, w.heap[k]? = some (.cells cs t (0, 0)) → t ≠ 78 → t ≠ 102 → w'.heap[k]? = some (.cells cs t (0, 0))
theorem KeepQ.trans {w w1 w2 : World} (h : KeepQ w w1) (k : KeepQ w1 w2) : KeepQ w w2 := ⟨Nat.le_trans h.size k.size, fun j cs t hj h1 h2 => k.keep j cs t (h.keep j cs t hj h1 h2) h1 h2⟩
theorem KeepQ.of_below {w w1 : World} (h : Below w.heap.size w w1) : KeepQ w w1 := ⟨h.size, fun j cs t hj _ _ => blk_below hj h⟩
theorem KeepQ.of_but {w w1 : World} {g : Nat} {cs0 : Array Value} (h : KeepBut w w1 g none) (hg : w.heap[g]? = some (.cells cs0 102 (0, 0))) : KeepQ w w1 := ⟨h.1, fun k cs t hk h1 h2 => (h.2 k (blk_lt hk) (fun e => by subst e; rw [hg] at hk; injection hk with hk; injection hk with _ hk _; exact h2 hk.symm) (by simp)).trans hk⟩
theorem KeepQ.set {w w1 : World} (h : KeepQ w w1) {g : Nat} {cs0 : Array Value} (hg : w1.heap[g]? = some (.cells cs0 78 (0, 0))) (j : Nat) (u : Value) : KeepQ w (w1.setCell ⟨g, j, none⟩ u) := ⟨by simpa [World.setCell] using h.size, fun k cs t hk h1 h2 => blk_far (h.keep k cs t hk h1 h2) (p := ⟨g, j, none⟩) (fun e => by
  have h3 := h.keep k cs t hk h1 h2
  rw [e] at h3
  rw [h3] at hg
  injection hg with hg
  injection hg with _ hg _
  exact h1 hg) u⟩
theorem TRX.below {w0 w w1 : World} {gR gr : Nat} {s : ByteArray} {ok : Bool} {p e : Int} (h : TRX w0 w gR gr s ok p e) (hb : Below w.heap.size w w1) : TRX w0 w1 gR gr s ok p e := ⟨blk_below h.box hb, ⟨blk_below h.rd.1 hb, h.rd.2⟩, h.err, h.low⟩
theorem TRS.below {w0 w w1 : World} {gR gr : Nat} {s : ByteArray} {o : Option Int} (h : TRS w0 w gR gr s o) (hb : Below w.heap.size w w1) : TRS w0 w1 gR gr s o := by
  obtain ⟨ok, p, e, h1, h2⟩ := h
  exact ⟨ok, p, e, h1.below hb, h2⟩
theorem TRX.ne {w0 w : World} {gR gr : Nat} {s : ByteArray} {ok : Bool} {p e : Int} (h : TRX w0 w gR gr s ok p e) : gR ≠ gr := blk_ne h.box h.rd.1 (by decide)
theorem TRX.but {w0 w w1 : World} {gR gr : Nat} {s : ByteArray} {ok : Bool} {p e p' e' : Int} (h : TRX w0 w gR gr s ok p e) (hk : KeepBut w w1 gr none) (hi : IsS102 w0 w1 gr s p' e') (he : e' = 0 ∨ e' = 2) : TRX w0 w1 gR gr s ok p' e' := ⟨(hk.2 gR (blk_lt h.box) h.ne (by simp)).trans h.box, hi, he, h.low⟩
theorem TRX.flag {w0 w : World} {gR gr : Nat} {s : ByteArray} {ok : Bool} {p e : Int} (h : TRX w0 w gR gr s ok p e) (b : Bool) : TRX w0 (w.setCell ⟨gR, 1, none⟩ (.bool b)) gR gr s b p e := ⟨blk_put h.box 1 (.bool b) rfl, ⟨blk_far h.rd.1 (p := ⟨gR, 1, none⟩) (Ne.symm h.ne) (.bool b), h.rd.2⟩, h.err, h.low⟩
def uR (s : ByteArray) (p e : Int) : Int × ByteArray × Int × Int := if e = 0 then rdU s p else (0, s, p, e)
def sR (s : ByteArray) (p e : Int) : Int × ByteArray × Int × Int := if e = 0 then rdS s p else (0, s, p, e)
def tR (s : ByteArray) (p e : Int) : ByteArray × ByteArray × Int × Int := if e = 0 then rdT s p else ((⟨#[]⟩ : ByteArray), s, p, e)
def lR (s : ByteArray) (p e : Int) : Int × ByteArray × Int × Int := if e = 0 then rdL s p else (0, s, p, e)
theorem uR_eq (s : ByteArray) (p e : Int) (he : e = 0 ∨ e = 2) (hz : s.size ≤ 140737488355327) : codec_Reader_Unsigned.f 40 s p e = some (uR s p e) := by
  rcases he with rfl | rfl
  · exact rd_unsigned 28 s p hz
  · exact (rd_err 40 s p).1
theorem sR_eq (s : ByteArray) (p e : Int) (he : e = 0 ∨ e = 2) (hz : s.size ≤ 140737488355327) : codec_Reader_Signed.f 40 s p e = some (sR s p e) := by
  rcases he with rfl | rfl
  · exact rd_signed 28 s p hz
  · exact (rd_err 40 s p).2.1
theorem tR_eq (s : ByteArray) (p e : Int) (he : e = 0 ∨ e = 2) (hz : s.size ≤ 140737488355327) : codec_Reader_Text.f 40 s p e = some (tR s p e) := by
  rcases he with rfl | rfl
  · exact rd_text 28 s p hz
  · exact (rd_err 40 s p).2.2.1
theorem lR_eq (s : ByteArray) (p e : Int) (he : e = 0 ∨ e = 2) (hz : s.size ≤ 140737488355327) : codec_Reader_List.f 40 s p e = some (lR s p e) := by
  rcases he with rfl | rfl
  · exact rd_list 28 s p hz
  · exact (rd_err 40 s p).2.2.2
theorem uR_st (s : ByteArray) (p e : Int) (he : e = 0 ∨ e = 2) : (uR s p e).2.1 = s ∧ ((uR s p e).2.2.2 = 0 ∨ (uR s p e).2.2.2 = 2) := by
  unfold uR
  rcases he with rfl | rfl
  · rw [if_pos rfl]
    unfold rdU
    split
    · exact ⟨rfl, Or.inl rfl⟩
    · exact ⟨rfl, Or.inr rfl⟩
  · rw [if_neg (by decide)]
    exact ⟨rfl, Or.inr rfl⟩
theorem uR_good {s : ByteArray} {p : Int} {v : Int} {q : Int} (h : uS s p = some (v, q)) : uR s p 0 = (v, s, q, 0) := by
  unfold uR rdU
  rw [if_pos rfl, h]
theorem uR_bad {s : ByteArray} {p e : Int} (he : e = 0 ∨ e = 2) (h : e = 0 → uS s p = none) : (uR s p e).2.2.2 = 2 := by
  unfold uR
  rcases he with rfl | rfl
  · rw [if_pos rfl]
    unfold rdU
    rw [h rfl]
  · rw [if_neg (by decide)]
theorem St.u {s : ByteArray} {o : Option Int} {ok : Bool} {p e : Int} (h : St o ok p e) (he : e = 0 ∨ e = 2) : St ((o.bind fun p => uS s p).map Prod.snd) ok (uR s p e).2.2.1 (uR s p e).2.2.2 ∧ ∀ v q, (o.bind fun p => uS s p) = some (v, q) → (uR s p e).1 = v := by
  cases o with
  | none =>
    refine ⟨⟨fun q hq => (by cases hq), fun _ hh => ?_⟩, fun v q hq => by cases hq⟩
    have h2 := h.2 rfl
    rcases he with rfl | rfl
    · exact h2 ⟨hh.1, rfl⟩
    · have h3 := uR_bad (s := s) (p := p) (Or.inr rfl : (2 : Int) = 0 ∨ (2 : Int) = 2) (fun h => by cases h)
      have h4 := hh.2
      rw [h3] at h4
      cases h4
  | some q0 =>
    obtain ⟨rfl, rfl, rfl⟩ := h.1 q0 rfl
    rw [Option.bind_some]
    cases hs : uS s p with
    | none =>
      refine ⟨⟨fun q hq => (by cases hq), fun _ hh => ?_⟩, fun v q hq => by cases hq⟩
      have h3 := uR_bad (s := s) (p := p) (Or.inl rfl : (0 : Int) = 0 ∨ (0 : Int) = 2) (fun _ => hs)
      have h4 := hh.2
      rw [h3] at h4
      cases h4
    | some a =>
      obtain ⟨v, q⟩ := a
      rw [uR_good hs]
      refine ⟨⟨fun q' hq => ?_, fun hn => by cases hn⟩, fun v' q' hq => ?_⟩
      · injection hq with hq
        exact ⟨rfl, hq, rfl⟩
      · injection hq with hq
        injection hq
theorem sR_st (s : ByteArray) (p e : Int) (he : e = 0 ∨ e = 2) : (sR s p e).2.1 = s ∧ ((sR s p e).2.2.2 = 0 ∨ (sR s p e).2.2.2 = 2) := by
  unfold sR
  rcases he with rfl | rfl
  · rw [if_pos rfl]
    unfold rdS
    split
    · exact ⟨rfl, Or.inl rfl⟩
    · exact ⟨rfl, Or.inr rfl⟩
  · rw [if_neg (by decide)]
    exact ⟨rfl, Or.inr rfl⟩
theorem sR_good {s : ByteArray} {p : Int} {v : Int} {q : Int} (h : sS s p = some (v, q)) : sR s p 0 = (v, s, q, 0) := by
  unfold sR rdS
  rw [if_pos rfl, h]
theorem sR_bad {s : ByteArray} {p e : Int} (he : e = 0 ∨ e = 2) (h : e = 0 → sS s p = none) : (sR s p e).2.2.2 = 2 := by
  unfold sR
  rcases he with rfl | rfl
  · rw [if_pos rfl]
    unfold rdS
    rw [h rfl]
  · rw [if_neg (by decide)]
theorem St.s {s : ByteArray} {o : Option Int} {ok : Bool} {p e : Int} (h : St o ok p e) (he : e = 0 ∨ e = 2) : St ((o.bind fun p => sS s p).map Prod.snd) ok (sR s p e).2.2.1 (sR s p e).2.2.2 ∧ ∀ v q, (o.bind fun p => sS s p) = some (v, q) → (sR s p e).1 = v := by
  cases o with
  | none =>
    refine ⟨⟨fun q hq => (by cases hq), fun _ hh => ?_⟩, fun v q hq => by cases hq⟩
    have h2 := h.2 rfl
    rcases he with rfl | rfl
    · exact h2 ⟨hh.1, rfl⟩
    · have h3 := sR_bad (s := s) (p := p) (Or.inr rfl : (2 : Int) = 0 ∨ (2 : Int) = 2) (fun h => by cases h)
      have h4 := hh.2
      rw [h3] at h4
      cases h4
  | some q0 =>
    obtain ⟨rfl, rfl, rfl⟩ := h.1 q0 rfl
    rw [Option.bind_some]
    cases hs : sS s p with
    | none =>
      refine ⟨⟨fun q hq => (by cases hq), fun _ hh => ?_⟩, fun v q hq => by cases hq⟩
      have h3 := sR_bad (s := s) (p := p) (Or.inl rfl : (0 : Int) = 0 ∨ (0 : Int) = 2) (fun _ => hs)
      have h4 := hh.2
      rw [h3] at h4
      cases h4
    | some a =>
      obtain ⟨v, q⟩ := a
      rw [sR_good hs]
      refine ⟨⟨fun q' hq => ?_, fun hn => by cases hn⟩, fun v' q' hq => ?_⟩
      · injection hq with hq
        exact ⟨rfl, hq, rfl⟩
      · injection hq with hq
        injection hq
theorem tR_st (s : ByteArray) (p e : Int) (he : e = 0 ∨ e = 2) : (tR s p e).2.1 = s ∧ ((tR s p e).2.2.2 = 0 ∨ (tR s p e).2.2.2 = 2) := by
  unfold tR
  rcases he with rfl | rfl
  · rw [if_pos rfl]
    unfold rdT
    split
    · exact ⟨rfl, Or.inl rfl⟩
    · exact ⟨rfl, Or.inr rfl⟩
  · rw [if_neg (by decide)]
    exact ⟨rfl, Or.inr rfl⟩
theorem tR_good {s : ByteArray} {p : Int} {v : ByteArray} {q : Int} (h : tS s p = some (v, q)) : tR s p 0 = (v, s, q, 0) := by
  unfold tR rdT
  rw [if_pos rfl, h]
theorem tR_bad {s : ByteArray} {p e : Int} (he : e = 0 ∨ e = 2) (h : e = 0 → tS s p = none) : (tR s p e).2.2.2 = 2 := by
  unfold tR
  rcases he with rfl | rfl
  · rw [if_pos rfl]
    unfold rdT
    rw [h rfl]
  · rw [if_neg (by decide)]
theorem St.t {s : ByteArray} {o : Option Int} {ok : Bool} {p e : Int} (h : St o ok p e) (he : e = 0 ∨ e = 2) : St ((o.bind fun p => tS s p).map Prod.snd) ok (tR s p e).2.2.1 (tR s p e).2.2.2 ∧ ∀ v q, (o.bind fun p => tS s p) = some (v, q) → (tR s p e).1 = v := by
  cases o with
  | none =>
    refine ⟨⟨fun q hq => (by cases hq), fun _ hh => ?_⟩, fun v q hq => by cases hq⟩
    have h2 := h.2 rfl
    rcases he with rfl | rfl
    · exact h2 ⟨hh.1, rfl⟩
    · have h3 := tR_bad (s := s) (p := p) (Or.inr rfl : (2 : Int) = 0 ∨ (2 : Int) = 2) (fun h => by cases h)
      have h4 := hh.2
      rw [h3] at h4
      cases h4
  | some q0 =>
    obtain ⟨rfl, rfl, rfl⟩ := h.1 q0 rfl
    rw [Option.bind_some]
    cases hs : tS s p with
    | none =>
      refine ⟨⟨fun q hq => (by cases hq), fun _ hh => ?_⟩, fun v q hq => by cases hq⟩
      have h3 := tR_bad (s := s) (p := p) (Or.inl rfl : (0 : Int) = 0 ∨ (0 : Int) = 2) (fun _ => hs)
      have h4 := hh.2
      rw [h3] at h4
      cases h4
    | some a =>
      obtain ⟨v, q⟩ := a
      rw [tR_good hs]
      refine ⟨⟨fun q' hq => ?_, fun hn => by cases hn⟩, fun v' q' hq => ?_⟩
      · injection hq with hq
        exact ⟨rfl, hq, rfl⟩
      · injection hq with hq
        injection hq
theorem lR_st (s : ByteArray) (p e : Int) (he : e = 0 ∨ e = 2) : (lR s p e).2.1 = s ∧ ((lR s p e).2.2.2 = 0 ∨ (lR s p e).2.2.2 = 2) := by
  unfold lR
  rcases he with rfl | rfl
  · rw [if_pos rfl]
    unfold rdL
    split
    · exact ⟨rfl, Or.inl rfl⟩
    · exact ⟨rfl, Or.inr rfl⟩
  · rw [if_neg (by decide)]
    exact ⟨rfl, Or.inr rfl⟩
theorem lR_good {s : ByteArray} {p : Int} {v : Int} {q : Int} (h : lS s p = some (v, q)) : lR s p 0 = (v, s, q, 0) := by
  unfold lR rdL
  rw [if_pos rfl, h]
theorem lR_bad {s : ByteArray} {p e : Int} (he : e = 0 ∨ e = 2) (h : e = 0 → lS s p = none) : (lR s p e).2.2.2 = 2 := by
  unfold lR
  rcases he with rfl | rfl
  · rw [if_pos rfl]
    unfold rdL
    rw [h rfl]
  · rw [if_neg (by decide)]
theorem St.l {s : ByteArray} {o : Option Int} {ok : Bool} {p e : Int} (h : St o ok p e) (he : e = 0 ∨ e = 2) : St ((o.bind fun p => lS s p).map Prod.snd) ok (lR s p e).2.2.1 (lR s p e).2.2.2 ∧ ∀ v q, (o.bind fun p => lS s p) = some (v, q) → (lR s p e).1 = v := by
  cases o with
  | none =>
    refine ⟨⟨fun q hq => (by cases hq), fun _ hh => ?_⟩, fun v q hq => by cases hq⟩
    have h2 := h.2 rfl
    rcases he with rfl | rfl
    · exact h2 ⟨hh.1, rfl⟩
    · have h3 := lR_bad (s := s) (p := p) (Or.inr rfl : (2 : Int) = 0 ∨ (2 : Int) = 2) (fun h => by cases h)
      have h4 := hh.2
      rw [h3] at h4
      cases h4
  | some q0 =>
    obtain ⟨rfl, rfl, rfl⟩ := h.1 q0 rfl
    rw [Option.bind_some]
    cases hs : lS s p with
    | none =>
      refine ⟨⟨fun q hq => (by cases hq), fun _ hh => ?_⟩, fun v q hq => by cases hq⟩
      have h3 := lR_bad (s := s) (p := p) (Or.inl rfl : (0 : Int) = 0 ∨ (0 : Int) = 2) (fun _ => hs)
      have h4 := hh.2
      rw [h3] at h4
      cases h4
    | some a =>
      obtain ⟨v, q⟩ := a
      rw [lR_good hs]
      refine ⟨⟨fun q' hq => ?_, fun hn => by cases hn⟩, fun v' q' hq => ?_⟩
      · injection hq with hq
        exact ⟨rfl, hq, rfl⟩
      · injection hq with hq
        injection hq
theorem rs_calls (w0 : World) (gR gr : Nat) (s : ByteArray) (o : Option Int) (w : World) (hG : Glob w0) (hz : s.size ≤ 140737488355327) (h : TRS w0 w gR gr s o) (hB : Below w0.heap.size w0 w) :
    Calls Tryd.prog 39 #[.pointer (some ⟨gr, 0, none⟩)] w fun e w' => ∃ x : Int, e = .returned (.int .i64 x) ∧ TRS w0 w' gR gr s ((o.bind fun p => sS s p).map Prod.snd) ∧ (∀ v q, (o.bind fun p => sS s p) = some (v, q) → x = v) ∧ Below w0.heap.size w0 w' ∧ KeepQ w w' := by
  obtain ⟨ok, p, er, hx, hs⟩ := h
  have h1 := sR_st s p er hx.err
  have h2 := hs.s (s := s) hx.err
  have hf := sR_eq s p er hx.err hz
  obtain ⟨⟨x, s', p', e'⟩, hr⟩ : ∃ r, sR s p er = r := ⟨_, rfl⟩
  rw [hr] at h1 h2 hf
  obtain ⟨h1a, h1b⟩ := h1
  replace h1a : s' = s := h1a
  subst h1a
  refine (codec_Reader_Signed.calls 40 gr s' p er x s' p' e' w0 w hG hx.rd hB hf).mono ?_
  rintro e w' ⟨rfl, hi, hb, hk⟩
  exact ⟨x, rfl, ⟨ok, p', e', hx.but hk hi h1b, h2.1⟩, h2.2, hb, KeepQ.of_but hk hx.rd.1⟩
theorem rt_calls (w0 : World) (gR gr : Nat) (s : ByteArray) (o : Option Int) (w : World) (hG : Glob w0) (hz : s.size ≤ 140737488355327) (h : TRS w0 w gR gr s o) (hB : Below w0.heap.size w0 w) :
    Calls Tryd.prog 33 #[.pointer (some ⟨gr, 0, none⟩)] w fun e w' => ∃ x : ByteArray, e = .returned (.string x) ∧ TRS w0 w' gR gr s ((o.bind fun p => tS s p).map Prod.snd) ∧ (∀ v q, (o.bind fun p => tS s p) = some (v, q) → x = v) ∧ Below w0.heap.size w0 w' ∧ KeepQ w w' := by
  obtain ⟨ok, p, er, hx, hs⟩ := h
  have h1 := tR_st s p er hx.err
  have h2 := hs.t (s := s) hx.err
  have hf := tR_eq s p er hx.err hz
  obtain ⟨⟨x, s', p', e'⟩, hr⟩ : ∃ r, tR s p er = r := ⟨_, rfl⟩
  rw [hr] at h1 h2 hf
  obtain ⟨h1a, h1b⟩ := h1
  replace h1a : s' = s := h1a
  subst h1a
  refine (codec_Reader_Text.calls 40 gr s' p er x s' p' e' w0 w hG hx.rd hB hf).mono ?_
  rintro e w' ⟨rfl, hi, hb, hk⟩
  exact ⟨x, rfl, ⟨ok, p', e', hx.but hk hi h1b, h2.1⟩, h2.2, hb, KeepQ.of_but hk hx.rd.1⟩
theorem rl_calls (w0 : World) (gR gr : Nat) (s : ByteArray) (o : Option Int) (w : World) (hG : Glob w0) (hz : s.size ≤ 140737488355327) (h : TRS w0 w gR gr s o) (hB : Below w0.heap.size w0 w) :
    Calls Tryd.prog 37 #[.pointer (some ⟨gr, 0, none⟩)] w fun e w' => ∃ x : Int, e = .returned (.int .i64 x) ∧ TRS w0 w' gR gr s ((o.bind fun p => lS s p).map Prod.snd) ∧ (∀ v q, (o.bind fun p => lS s p) = some (v, q) → x = v) ∧ Below w0.heap.size w0 w' ∧ KeepQ w w' := by
  obtain ⟨ok, p, er, hx, hs⟩ := h
  have h1 := lR_st s p er hx.err
  have h2 := hs.l (s := s) hx.err
  have hf := lR_eq s p er hx.err hz
  obtain ⟨⟨x, s', p', e'⟩, hr⟩ : ∃ r, lR s p er = r := ⟨_, rfl⟩
  rw [hr] at h1 h2 hf
  obtain ⟨h1a, h1b⟩ := h1
  replace h1a : s' = s := h1a
  subst h1a
  refine (codec_Reader_List.calls 40 gr s' p er x s' p' e' w0 w hG hx.rd hB hf).mono ?_
  rintro e w' ⟨rfl, hi, hb, hk⟩
  exact ⟨x, rfl, ⟨ok, p', e', hx.but hk hi h1b, h2.1⟩, h2.2, hb, KeepQ.of_but hk hx.rd.1⟩
def numO (s : ByteArray) (most : Int) (o : Option Int) : Option (Int × Int) := o.bind fun p => (uS s p).bind fun b => if b.1 ≤ most then some b else none
def lstO (s : ByteArray) (n : Int) (o : Option Int) : Option Int := o.bind fun p => (lS s p).bind fun b => if b.1 = n then some b.2 else none
theorem St.fail {p e : Int} : St none false p e := ⟨fun q hq => (by cases hq), fun _ hh => by cases hh.1⟩
theorem numO_eq (s : ByteArray) (most : Int) (o : Option Int) : numO s most o = (o.bind fun p => uS s p).bind fun b => if b.1 ≤ most then some b else none := by
  unfold numO
  cases o <;> rfl
theorem lstO_eq (s : ByteArray) (n : Int) (o : Option Int) : lstO s n o = (o.bind fun p => lS s p).bind fun b => if b.1 = n then some b.2 else none := by
  unfold lstO
  cases o <;> rfl
theorem uR_range (s : ByteArray) (p e : Int) : 0 ≤ (uR s p e).1 ∧ (uR s p e).1 < 18446744073709551616 := by
  unfold uR
  split
  · unfold rdU
    split
    · rename_i v q h
      have := uS_some h
      exact ⟨this.2.2.2.1, this.2.2.2.2⟩
    · exact ⟨Int.le_refl 0, (by decide : (0 : Int) < 18446744073709551616)⟩
  · exact ⟨Int.le_refl 0, (by decide : (0 : Int) < 18446744073709551616)⟩
set_option maxHeartbeats 16000000 in
set_option maxRecDepth 100000 in
theorem tlist_calls (w0 : World) (gR gr : Nat) (s : ByteArray) (n : Int) (o : Option Int) (w : World) (hG : Glob w0) (hz : s.size ≤ 140737488355327) (h : TRS w0 w gR gr s o) (hB : Below w0.heap.size w0 w) :
    Calls Tryd.prog 32 #[.pointer (some ⟨gR, 0, none⟩), .int .i64 n] w fun e w' => e = .returned (.tuple #[]) ∧ TRS w0 w' gR gr s (lstO s n o) ∧ Below w0.heap.size w0 w' ∧ KeepQ w w' := by
  have HG := Aside0.mk hG
  have HZ := Aside0.mk hz
  have HT := Aside0.mk h
  have HB := Aside0.mk hB
  obtain ⟨ok0, p0, er0, hx0, _⟩ := h
  have r0 := (blk_cell hx0.box 0).trans rfl
  clear hx0 hB hG hz
  have hend : Aside0 (∀ (x : Int) (w1 : World), TRS w0 w1 gR gr s ((o.bind fun p => lS s p).map Prod.snd) → (∀ v q, (o.bind fun p => lS s p) = some (v, q) → x = v) → x = n → TRS w0 w1 gR gr s (lstO s n o)) := ⟨fun x w1 ht hv he => by
    rw [lstO_eq]
    cases hl : (o.bind fun p => lS s p) with
    | none => rw [hl] at ht; exact ht
    | some b =>
      obtain ⟨v, q⟩ := b
      rw [hl] at ht
      have hvx := hv v q hl
      rw [Option.bind_some, if_pos (by show v = n; rw [← hvx, he])]
      exact ht⟩
  have hbad : Aside0 (∀ (x : Int) (w1 : World), TRS w0 w1 gR gr s ((o.bind fun p => lS s p).map Prod.snd) → (∀ v q, (o.bind fun p => lS s p) = some (v, q) → x = v) → ¬ x = n → TRS w0 (w1.setCell ⟨gR, 1, none⟩ (.bool false)) gR gr s (lstO s n o)) := ⟨fun x w1 ht hv he => by
    obtain ⟨ok, p, er, h1, _⟩ := ht
    have : lstO s n o = none := by
      rw [lstO_eq]
      cases hl : (o.bind fun p => lS s p) with
      | none => rfl
      | some b =>
        obtain ⟨v, q⟩ := b
        have hvx := hv v q hl
        rw [Option.bind_some, if_neg (by show ¬ v = n; rw [← hvx]; exact he)]
    rw [this]
    exact ⟨false, p, er, h1.flag false, St.fail⟩⟩
  go_enter Tryd.func32, Tryd.ntmps32
  go_wp2_with (go_at_call 37; (with_reducible refine (rl_calls w0 gR gr s o _ HG.out HZ.out HT.out HB.out).mono ?_); rintro e w1 ⟨x, rfl, ht, hv, hb, hk⟩; have HT1 := Aside0.mk ht; have HV1 := Aside0.mk hv; have HB1 := Aside0.mk hb; have HK1 := Aside0.mk hk; obtain ⟨ok1, p1, er1, hx1, _⟩ := ht; have HX1 := Aside0.mk hx1; have r1 := (blk_cell hx1.box 1).trans rfl; have f1 := blk_frozen hx1.box 1; clear hx1 hv hb hk r0)
  · rename_i hne
    have hne' : ¬ x = n := bne_iff_ne.mp hne
    refine bodyPost_end (results_none rfl _ _ _) rfl ?_
    exact ⟨rfl, hbad.out x w1 HT1.out HV1.out hne', HB1.out.setCell (p := ⟨gR, 1, none⟩) HX1.out.low (.bool false), HK1.out.set HX1.out.box 1 (.bool false)⟩
  · rename_i hne
    have hne' : x = n := by
      by_cases hq : x = n
      · exact hq
      · rw [bne_iff_ne.mpr hq] at hne
        cases hne
    refine bodyPost_end (results_none rfl _ _ _) rfl ?_
    exact ⟨rfl, hend.out x w1 HT1.out HV1.out hne', HB1.out, HK1.out⟩
set_option maxHeartbeats 16000000 in
set_option maxRecDepth 100000 in
theorem tnum_calls (w0 : World) (gR gr : Nat) (s : ByteArray) (most : Int) (o : Option Int) (w : World) (hG : Glob w0) (hz : s.size ≤ 140737488355327) (hm : 0 ≤ most ∧ most ≤ 1000000000000) (h : TRS w0 w gR gr s o) (hB : Below w0.heap.size w0 w) :
    Calls Tryd.prog 36 #[.pointer (some ⟨gR, 0, none⟩), .int .u64 most] w fun e w' => ∃ x : Int, e = .returned (.int .i64 x) ∧ TRS w0 w' gR gr s ((numO s most o).map Prod.snd) ∧ (∀ v q, numO s most o = some (v, q) → x = v) ∧ (0 ≤ x ∧ x ≤ most) ∧ Below w0.heap.size w0 w' ∧ KeepQ w w' := by
  have HG := Aside0.mk hG
  have HM := Aside0.mk hm
  have HT := Aside0.mk h
  have HB := Aside0.mk hB
  obtain ⟨ok0, p0, er0, hx0, hs0⟩ := h
  have HX0 := Aside0.mk hx0
  have hst := uR_st s p0 er0 hx0.err
  have hu := hs0.u (s := s) hx0.err
  have hrg := uR_range s p0 er0
  have hf := uR_eq s p0 er0 hx0.err hz
  obtain ⟨⟨x, s', p', e'⟩, hr⟩ : ∃ r, uR s p0 er0 = r := ⟨_, rfl⟩
  rw [hr] at hst hu hrg hf
  obtain ⟨h1a, h1b⟩ := hst
  replace h1a : s' = s := h1a
  subst h1a
  have HF := Aside0.mk hf
  have HU := Aside0.mk hu
  have HRG := Aside0.mk (show 0 ≤ x ∧ x < 18446744073709551616 from hrg)
  have HE := Aside0.mk h1b
  have r0 := (blk_cell hx0.box 0).trans rfl
  clear hx0 hs0 hB hG hz hm hu hrg hf hr h1b
  by_cases k : x > most
  · have hk1 : decide (most < x) = true := decide_eq_true k
    have HN := Aside0.mk (show numO s' most o = none by
      rw [numO_eq]
      cases hl : (o.bind fun p => uS s' p) with
      | none => rfl
      | some b =>
        obtain ⟨v, q⟩ := b
        have hvx := HU.out.2 v q hl
        rw [Option.bind_some, if_neg (by show ¬ v ≤ most; have h2 : x = v := hvx; omega)])
    clear k
    go_enter Tryd.func36, Tryd.ntmps36
    go_wp2_with (go_at_call 59; (with_reducible refine (codec_Reader_Unsigned.calls 40 gr s' p0 er0 x s' p' e' w0 _ HG.out HX0.out.rd HB.out HF.out).mono ?_); rintro e w1 ⟨rfl, hi, hb, hk⟩; have HX1 := Aside0.mk (HX0.out.but hk hi HE.out); have HB1 := Aside0.mk hb; have HK1 := Aside0.mk (KeepQ.of_but hk HX0.out.rd.1); have r1 := (blk_cell HX1.out.box 1).trans rfl; have f1 := blk_frozen HX1.out.box 1; clear hi hb hk r0)
    go_ret
    rw [HN.out]
    exact ⟨0, rfl, ⟨false, p', e', HX1.out.flag false, St.fail⟩, fun v q hq => (by cases hq), ⟨Int.le_refl 0, HM.out.1⟩, HB1.out.setCell (p := ⟨gR, 1, none⟩) HX1.out.low (.bool false), HK1.out.set HX1.out.box 1 (.bool false)⟩
  · have hk1 : decide (most < x) = false := decide_eq_false k
    have hw : IntKind.i64.wrap x = x := by have h1 := HRG.out; have h2 := HM.out; rw [i64_w]; exact wrap_id (by omega) (by omega)
    have hw2 : wrap64 x = x := by have h1 := HRG.out; have h2 := HM.out; exact wrap_id (by omega) (by omega)
    have HN := Aside0.mk (show numO s' most o = o.bind fun p => uS s' p by
      rw [numO_eq]
      cases hl : (o.bind fun p => uS s' p) with
      | none => rfl
      | some b =>
        obtain ⟨v, q⟩ := b
        have hvx := HU.out.2 v q hl
        rw [Option.bind_some, if_pos (by show v ≤ most; have h2 : x = v := hvx; omega)])
    have HK := Aside0.mk (show 0 ≤ x ∧ x ≤ most by have := HRG.out; omega)
    clear k
    go_enter Tryd.func36, Tryd.ntmps36
    go_wp2_with (go_at_call 59; (with_reducible refine (codec_Reader_Unsigned.calls 40 gr s' p0 er0 x s' p' e' w0 _ HG.out HX0.out.rd HB.out HF.out).mono ?_); rintro e w1 ⟨rfl, hi, hb, hk⟩; have HX1 := Aside0.mk (HX0.out.but hk hi HE.out); have HB1 := Aside0.mk hb; have HK1 := Aside0.mk (KeepQ.of_but hk HX0.out.rd.1); have r1 := (blk_cell HX1.out.box 1).trans rfl; have f1 := blk_frozen HX1.out.box 1; clear hi hb hk r0)
    go_ret
    rw [HN.out]
    exact ⟨x, by first | rfl | rw [hw] | rw [hw2], ⟨ok0, p', e', HX1.out, HU.out.1⟩, HU.out.2, HK.out, HB1.out, HK1.out⟩
end Go.Proofs.YtbccjcdmpiolpaaDoor.T
end
section
namespace Go.Proofs.YtbccjcdmpiolpaaDoor.T
open Go.RowKit Go.Proofs.YtbccjcdmpiolpaaDoor.Pure Go.Proofs.YtbccjcdmpiolpaaDoorW.PrintWords Go.Proofs.YtbccjcdmpiolpaaDoorW.PrintLast Go.Proofs.YtbccjcdmpiolpaaDoorW.PrintMore
set_option linter.unusedVariables false
set_option linter.unusedSimpArgs false
attribute [local go_sem] max2_int min2_int max_two min_two
abbrev MI : Int := 6311433599
def recS (s : ByteArray) (o : Option Int) : Option (S44 × Int) :=
  (numO s MI (lstO s 5 o)).bind fun a => (numO s MI (some a.2)).bind fun b => (numO s 3 (some b.2)).bind fun c => (sS s c.2).bind fun d => (numO s 15 (some d.2)).bind fun e => some (⟨a.1, b.1, ⟨c.1, d.1⟩, e.1, 0⟩, e.2)
def loopS (s : ByteArray) (total now n : Int) : Nat → Int → Int → Int → Option (List S44 × Int)
  | 0, _, _, p => some ([], p)
  | d + 1, i, bf, p => (recS s (some p)).bind fun x => if x.1.f0 = total - n + 1 + i ∧ bf ≤ x.1.f1 ∧ x.1.f1 ≤ now then (loopS s total now n d (i + 1) x.1.f1 x.2).map fun r => (x.1 :: r.1, r.2) else none
def bodyS (s : ByteArray) (sz : Int) : Option (Int × Int × List S44) :=
  (numO s MI (lstO s 3 (some 0))).bind fun a => (numO s MI (some a.2)).bind fun b => (lS s b.2).bind fun c => if c.1 = mn a.1 sz then (loopS s a.1 b.1 c.1 c.1.toNat 0 0 c.2).bind fun r => if r.2 = (s.size : Int) then some (a.1, b.1, r.1) else none else none
def restS (s : ByteArray) (sz : Int) : Option (Int × Int × List S44) :=
  ((lstO s 2 (some 0)).bind fun p => tS s p).bind fun a => (tS s a.2).bind fun b => if b.2 = (s.size : Int) ∧ a.1.toList = (digB b.1).toList then bodyS b.1 sz else none
theorem none_map {α β : Type} {o : Option α} {f : α → β} (h : o.map f = none) : o = none := by
  cases o with
  | none => rfl
  | some a => cases h
theorem some_map {α β : Type} {o : Option α} {f : α → β} {b : β} (h : o.map f = some b) : ∃ a, o = some a ∧ f a = b := by
  cases o with
  | none => cases h
  | some a => exact ⟨a, rfl, by injection h⟩
theorem tS_size {s : ByteArray} {p : Int} {t : ByteArray} {e : Int} (h : tS s p = some (t, e)) : t.size ≤ s.size := by
  unfold tS at h
  split at h
  · split at h
    · rename_i u q hu
      split at h
      · cases h
      · split at h
        · cases h
        · injection h with h
          injection h with h1 h2
          subst h1
          have := uS_some hu
          rw [ext_size _ _ _ (by omega) (by omega)]
          omega
    · cases h
  · cases h
theorem rest_none {s : ByteArray} {sz : Int} (h : ((((lstO s 2 (some 0)).bind fun p => tS s p).map Prod.snd).bind fun p => tS s p).map Prod.snd = none) : restS s sz = none := by
  have h := none_map h
  unfold restS
  cases h1 : ((lstO s 2 (some 0)).bind fun p => tS s p) with
  | none => rfl
  | some a =>
    rw [h1, Option.map_some, Option.bind_some] at h
    rw [Option.bind_some, h]
    rfl
theorem rest_some {s : ByteArray} {sz p : Int} {xd xb : ByteArray} (h : ((((lstO s 2 (some 0)).bind fun p => tS s p).map Prod.snd).bind fun p => tS s p).map Prod.snd = some p)
    (h1 : ∀ v q, ((lstO s 2 (some 0)).bind fun p => tS s p) = some (v, q) → xd = v) (h2 : ∀ v q, ((((lstO s 2 (some 0)).bind fun p => tS s p).map Prod.snd).bind fun p => tS s p) = some (v, q) → xb = v) :
    restS s sz = (if p = (s.size : Int) ∧ xd.toList = (digB xb).toList then bodyS xb sz else none) ∧ xb.size ≤ s.size ∧ p ≤ (s.size : Int) := by
  obtain ⟨b, hb, he⟩ := some_map h
  obtain ⟨vb, qb⟩ := b
  replace he : qb = p := he
  subst he
  have hb2 := h2 vb qb hb
  subst hb2
  cases ha : ((lstO s 2 (some 0)).bind fun p => tS s p) with
  | none => rw [ha] at hb; cases hb
  | some a =>
    obtain ⟨va, qa⟩ := a
    have ha2 := h1 va qa ha
    subst ha2
    rw [ha, Option.map_some, Option.bind_some] at hb
    unfold restS
    rw [ha, Option.bind_some]
    simp only []
    rw [hb, Option.bind_some]
    exact ⟨rfl, tS_size hb, (tS_some hb).2.2⟩
theorem body_none {s : ByteArray} {sz : Int} (h : ((((numO s MI ((numO s MI (lstO s 3 (some 0))).map Prod.snd)).map Prod.snd).bind fun p => lS s p).map Prod.snd) = none) : bodyS s sz = none := by
  have h := none_map h
  unfold bodyS
  cases h1 : numO s MI (lstO s 3 (some 0)) with
  | none => rfl
  | some a =>
    rw [h1, Option.map_some] at h
    rw [Option.bind_some]
    cases h2 : numO s MI (some a.2) with
    | none => rfl
    | some b =>
      rw [h2, Option.map_some, Option.bind_some] at h
      rw [Option.bind_some, h]
      rfl
theorem body_some {s : ByteArray} {sz p x1 x2 x3 : Int} (h : ((((numO s MI ((numO s MI (lstO s 3 (some 0))).map Prod.snd)).map Prod.snd).bind fun p => lS s p).map Prod.snd) = some p)
    (h1 : ∀ v q, numO s MI (lstO s 3 (some 0)) = some (v, q) → x1 = v) (h2 : ∀ v q, numO s MI ((numO s MI (lstO s 3 (some 0))).map Prod.snd) = some (v, q) → x2 = v) (h3 : ∀ v q, (((numO s MI ((numO s MI (lstO s 3 (some 0))).map Prod.snd)).map Prod.snd).bind fun p => lS s p) = some (v, q) → x3 = v) :
    bodyS s sz = (if x3 = mn x1 sz then (loopS s x1 x2 x3 x3.toNat 0 0 p).bind fun r => if r.2 = (s.size : Int) then some (x1, x2, r.1) else none else none) ∧ 0 ≤ x3 ∧ x3 ≤ 65535 := by
  obtain ⟨c, hc, he⟩ := some_map h
  obtain ⟨vc, qc⟩ := c
  replace he : qc = p := he
  subst he
  have e3 := h3 vc qc hc
  subst e3
  cases ha : numO s MI (lstO s 3 (some 0)) with
  | none => rw [ha] at hc; cases hc
  | some a =>
    obtain ⟨va, qa⟩ := a
    have e1 := h1 va qa ha
    subst e1
    rw [ha, Option.map_some] at hc h2
    cases hb : numO s MI (some qa) with
    | none => rw [hb] at hc; cases hc
    | some b =>
      obtain ⟨vb, qb⟩ := b
      have e2 := h2 vb qb hb
      subst e2
      rw [hb, Option.map_some, Option.bind_some] at hc
      unfold bodyS
      rw [ha, Option.bind_some]
      simp only []
      rw [hb, Option.bind_some]
      simp only []
      rw [hc, Option.bind_some]
      have := lS_some hc
      exact ⟨rfl, this.2.2.2.1, this.2.2.2.2⟩
abbrev o1R (s : ByteArray) (o : Option Int) : Option (Int × Int) := numO s MI (lstO s 5 o)
abbrev o2R (s : ByteArray) (o : Option Int) : Option (Int × Int) := numO s MI ((o1R s o).map Prod.snd)
abbrev o3R (s : ByteArray) (o : Option Int) : Option (Int × Int) := numO s 3 ((o2R s o).map Prod.snd)
abbrev o4R (s : ByteArray) (o : Option Int) : Option (Int × Int) := ((o3R s o).map Prod.snd).bind fun p => sS s p
abbrev o5R (s : ByteArray) (o : Option Int) : Option (Int × Int) := numO s 15 ((o4R s o).map Prod.snd)
theorem rec_none {s : ByteArray} {o : Option Int} (h : (o5R s o).map Prod.snd = none) : recS s o = none := by
  have h := none_map h
  unfold o5R o4R o3R o2R o1R at h
  unfold recS
  cases h1 : numO s MI (lstO s 5 o) with
  | none => rfl
  | some a =>
    rw [h1, Option.map_some] at h
    rw [Option.bind_some]
    cases h2 : numO s MI (some a.2) with
    | none => rfl
    | some b =>
      rw [h2, Option.map_some] at h
      rw [Option.bind_some]
      cases h3 : numO s 3 (some b.2) with
      | none => rfl
      | some c =>
        rw [h3, Option.map_some, Option.bind_some] at h
        rw [Option.bind_some]
        cases h4 : sS s c.2 with
        | none => rfl
        | some d =>
          rw [h4, Option.map_some] at h
          rw [Option.bind_some, h]
          rfl
theorem rec_some {s : ByteArray} {o : Option Int} {p x0 x1 x2 x3 x4 : Int} (h : (o5R s o).map Prod.snd = some p)
    (e0 : ∀ v q, o1R s o = some (v, q) → x0 = v) (e1 : ∀ v q, o2R s o = some (v, q) → x1 = v) (e2 : ∀ v q, o3R s o = some (v, q) → x2 = v) (e3 : ∀ v q, o4R s o = some (v, q) → x3 = v) (e4 : ∀ v q, o5R s o = some (v, q) → x4 = v) :
    recS s o = some (⟨x0, x1, ⟨x2, x3⟩, x4, 0⟩, p) := by
  unfold o5R at h e4
  unfold o4R at h e3 e4
  unfold o3R at h e2 e3 e4
  unfold o2R at h e1 e2 e3 e4
  unfold o1R at h e0 e1 e2 e3 e4
  unfold recS
  cases h1 : numO s MI (lstO s 5 o) with
  | none => rw [h1] at h; cases h
  | some a =>
    obtain ⟨va, qa⟩ := a
    have := e0 va qa h1
    subst this
    rw [h1, Option.map_some] at h e1 e2 e3 e4
    rw [Option.bind_some]
    simp only []
    cases h2 : numO s MI (some qa) with
    | none => rw [h2] at h; cases h
    | some b =>
      obtain ⟨vb, qb⟩ := b
      have := e1 vb qb h2
      subst this
      rw [h2, Option.map_some] at h e2 e3 e4
      rw [Option.bind_some]
      simp only []
      cases h3 : numO s 3 (some qb) with
      | none => rw [h3] at h; cases h
      | some c =>
        obtain ⟨vc, qc⟩ := c
        have := e2 vc qc h3
        subst this
        rw [h3, Option.map_some, Option.bind_some] at h e3 e4
        rw [Option.bind_some]
        simp only []
        cases h4 : sS s qc with
        | none => rw [h4] at h; cases h
        | some d =>
          obtain ⟨vd, qd⟩ := d
          have := e3 vd qd h4
          subst this
          rw [h4, Option.map_some] at h e4
          rw [Option.bind_some]
          simp only []
          cases h5 : numO s 15 (some qd) with
          | none => rw [h5] at h; cases h
          | some f =>
            obtain ⟨vf, qf⟩ := f
            have := e4 vf qf h5
            subst this
            rw [h5, Option.map_some] at h
            injection h with h
            rw [Option.bind_some]
            simp only []
            rw [← h]
end Go.Proofs.YtbccjcdmpiolpaaDoor.T
end
