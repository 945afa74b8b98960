/- CodecRawCard: one part of the proof that the law answers true for every input, and that its arguments read afterwards as before. No condition. -/
import Derived.Test.YtndeikikeeeigaaDoorCRaw2
import Derived.ProofKit
import Derived.Deep.Slices
import Derived.SizedLaws
import Derived.OpenShut
import Derived.DataReads
section
namespace Go.Proofs.YtndeikikeeeigaaDoor.Q
open Go.RowKit Go.Proofs.YtndeikikeeeigaaDoorW.PrintWords Go.Proofs.YtndeikikeeeigaaDoorW.PrintLast Go.Proofs.YtndeikikeeeigaaDoorW.PrintMore
attribute [local go_sem] max2_int min2_int max_two min_two max_three min_three max_four min_four
set_option linter.unusedVariables false
set_option linter.unusedSimpArgs false
def codec_Reader_Null.f (k : Nat) (s0_0 : ByteArray) (s0_1 : Int) (s0_2 : Int) : Option (ByteArray × Int × Int) := if s0_2 = 0 then ((codec_Reader_Null_1.f k s0_0 s0_1).bind fun bt349 => (if bt349.2.2 = true then (some (s0_0, bt349.2.1, s0_2)) else (some (s0_0, s0_1, 2)))) else (some (s0_0, s0_1, s0_2))
def codec_Reader_Null.T58004 : Bool × List (List Nat × List Nat) := (true, [([], []), ([], []), ([1], [1]), ([2], [2]), ([3], [3]), ([], []), ([5], [5]), ([6], [6]), ([7], [7]), ([0, 4, 8], [0, 4, 8]), ([9], [9]), ([10], [10]), ([10], [10]), ([10], [10]), ([11, 9, 0, 1, 2, 3, 4, 5, 6, 7, 8, 9, 10, 11], [11]), ([12, 14, 0, 1, 2, 3, 4, 5, 6, 7, 8, 9, 10, 11, 12, 14], [12]), ([13, 15, 0, 1, 2, 3, 4, 5, 6, 7, 8, 9, 10, 11, 12, 13, 14, 15], [13])])
def codec_Reader_Null.B58004 : List Nat := [0, 0, 2, 6, 14, 0, 32, 96, 224, 511, 1023, 2047, 2047, 2047, 4095, 24575, 65535]
theorem codec_Reader_Null.tab58004 : rtab .any (opsOf Tryd.f58 4) = codec_Reader_Null.T58004 := by kernel_rfl
theorem codec_Reader_Null.bits58004 : waitsOk codec_Reader_Null.T58004.2 codec_Reader_Null.B58004 = true := by kernel_rfl
set_option maxHeartbeats 8000000 in
set_option maxRecDepth 100000 in
theorem codec_Reader_Null.calls (k : Nat) (g : Nat) (s0_0 : ByteArray) (s0_1 : Int) (s0_2 : Int) (r1 : ByteArray) (r2 : Int) (r3 : Int) (w0 w : World) (hG : Glob w0) (hI : IsS78 w0 w g s0_0 s0_1 s0_2) (hB : Below w0.heap.size w0 w) (h : codec_Reader_Null.f k s0_0 s0_1 s0_2 = some (r1, r2, r3)) :
    Calls Tryd.prog 60 #[.pointer (some ⟨g, 0, none⟩)] w fun e w' => e = .returned (.tuple #[]) ∧ IsS78 w0 w' g r1 r2 r3 ∧ Below w0.heap.size w0 w' ∧ KeepBut w w' g none := by
  have hmf_ : ∀ (fn : Fn) (first cap : Array Value) (w : World), (Instr.makeFunc fn first cap).run Tryd.prog w = .ok (.func fn first cap) w := fun _ _ _ _ => rfl
  have HG := Aside0.mk hG
  clear hG
  have HI0 := Aside0.mk hI
  have HK := Aside0.mk (KeepBut.refl w g none)
  have HL := Aside0.mk hB.size
  clear hI
  have HW0 := Aside0.mk hB.size
  have HB := Aside0.mk hB
  clear hB
  have H : (if s0_2 = 0 then ((codec_Reader_Null_1.f k s0_0 s0_1).bind fun bt349 => (if bt349.2.2 = true then (some (s0_0, bt349.2.1, s0_2)) else (some (s0_0, s0_1, 2)))) else (some (s0_0, s0_1, s0_2))) = some (r1, r2, r3) := h
  clear h
  by_cases c2 : s0_2 = 0
  · rw [if_pos c2] at H
    have c2b0 : (s0_2 == 0) = true := beq_iff_eq.mpr c2
    have c2b1 : (s0_2 != 0) = false := bne_eq_false_iff_eq.mpr c2
    clear c2
    replace H := Option.bind_eq_some_iff.mp H
    obtain ⟨⟨t349, t350, t351⟩, A30, H⟩ := H
    replace H : (if t351 = true then (some (s0_0, t350, s0_2)) else (some (s0_0, s0_1, 2))) = some (r1, r2, r3) := H
    have A3 := Aside0.mk A30
    clear A30
    by_cases c4 : t351 = true
    · subst c4
      have H1 : (some (s0_0, t350, s0_2)) = some (r1, r2, r3) := by rw [if_pos rfl] at H; exact H
      clear H
      have H := H1
      clear H1
      simp only [Option.some.injEq, Prod.mk.injEq] at H
      obtain ⟨rfl, rfl, rfl⟩ := H
      obtain ⟨HGz5, hgz5⟩ := HI0.out
      have hcz5_0 := cellS78_0 HGz5
      have hcz5_1 := cellS78_1 HGz5
      have hcz5_2 := cellS78_2 HGz5
      have hfz5_0 := blk_frozen HGz5 0
      have hfz5_1 := blk_frozen HGz5 1
      have hfz5_2 := blk_frozen HGz5 2
      clear HGz5 hgz5
      go_enter Tryd.func60, Tryd.ntmps60
      try go_wp2_with (first | (go_at_call 58; go_in) | ((try simp only [Exit.inBlock, Exit.then]); refine bodyPost_end (results_none rfl _ _ _) rfl ?_; simp only []; go_at_K))
      have n0_ := Aside0.mk (IsS78.drew HI0.out)
      have n1_ := Aside0.mk (keep_drew HK.out)
      have n2_ := Aside0.mk (below_drew1 HB.out)
      clear HI0
      clear HK
      clear HB
      have HI0 := n0_
      have HK := n1_
      have HB := n2_
      clear n0_ n1_ n2_
      refine start_ (n := 17) (S := fun w' => w'.cell? ⟨g, 0, none⟩ = some (.string s0_0) ∧ w'.cell? ⟨g, 1, none⟩ = some (.int .i64 s0_1) ∧ w'.cell? ⟨g, 2, none⟩ = some (.int .i64 s0_2)) (ds := []) #[false, false, false, false, false, false, false, false, false, false, false, false, false, false, false, false, false] (by kernel_rfl) rfl rfl ⟨(blk_cell (Aside0.mk HI0.out.1).out 0).trans rfl, (blk_cell (Aside0.mk HI0.out.1).out 1).trans rfl, (blk_cell (Aside0.mk HI0.out.1).out 2).trans rfl⟩ (fun hHeld => ?_); refine with_tabW codec_Reader_Null.tab58004 codec_Reader_Null.bits58004 (fun HT_ HW_ => ?_)
      generalize w.drew = w6 at HI0 HK HB hHeld ⊢
      refine pure_ (i := 0) (N := some 16) (v := ?_) (a' := ?_) #[true, false, false, false, false, false, false, false, false, false, false, false, false, false, false, false, false] rfl rfl (any_of HT_.out (by kernel_rfl)) (fun _ _ _ h => h) (Or.inl ⟨by rfl, ?_⟩) ?_ ?_
      rotate_left
      · intro w'
        go_simp
        with_reducible rfl
      rotate_left
      · simp only [Act.put, List.setIfInBounds_toArray, List.set_cons_zero, List.set_cons_succ, i64_w, i32_w]
        rfl
      refine pure_ (i := 1) (N := some 17) (v := ?_) (a' := ?_) #[true, true, false, false, false, false, false, false, false, false, false, false, false, false, false, false, false] rfl rfl (any_of HT_.out (by kernel_rfl)) (fun _ _ _ h => h) (Or.inl ⟨by rfl, ?_⟩) ?_ ?_
      rotate_left
      · intro w'
        go_simp
        with_reducible rfl
      rotate_left
      · simp only [Act.put, List.setIfInBounds_toArray, List.set_cons_zero, List.set_cons_succ, i64_w, i32_w]
        rfl
      refine pure_ (i := 2) (N := some 18) (v := ?_) (a' := ?_) #[true, true, true, false, false, false, false, false, false, false, false, false, false, false, false, false, false] rfl rfl (any_of HT_.out (by kernel_rfl)) (fun _ _ _ h => h) (Or.inl ⟨by rfl, ?_⟩) ?_ ?_
      rotate_left
      · intro w'
        go_simp
        with_reducible rfl
      rotate_left
      · simp only [Act.put, List.setIfInBounds_toArray, List.set_cons_zero, List.set_cons_succ, i64_w, i32_w]
        rfl
      refine pure_ (i := 3) (N := some 19) (v := ?_) (a' := ?_) #[true, true, true, true, false, false, false, false, false, false, false, false, false, false, false, false, false] rfl rfl (any_of HT_.out (by kernel_rfl)) (fun _ _ _ h => h) (Or.inl ⟨by rfl, ?_⟩) ?_ ?_
      rotate_left
      · intro w'
        go_simp
        with_reducible rfl
      rotate_left
      · simp only [Act.put, List.setIfInBounds_toArray, List.set_cons_zero, List.set_cons_succ, i64_w, i32_w]
        rfl
      refine pure_ (i := 5) (N := some 21) (v := ?_) (a' := ?_) #[true, true, true, true, false, true, false, false, false, false, false, false, false, false, false, false, false] rfl rfl (any_of HT_.out (by kernel_rfl)) (fun _ _ _ h => h) (Or.inl ⟨by rfl, ?_⟩) ?_ ?_
      rotate_left
      · intro w'
        go_simp
        with_reducible rfl
      rotate_left
      · simp only [Act.put, List.setIfInBounds_toArray, List.set_cons_zero, List.set_cons_succ, i64_w, i32_w]
        rfl
      refine pure_ (i := 6) (N := some 22) (v := ?_) (a' := ?_) #[true, true, true, true, false, true, true, false, false, false, false, false, false, false, false, false, false] rfl rfl (any_of HT_.out (by kernel_rfl)) (fun _ _ _ h => h) (Or.inl ⟨by rfl, ?_⟩) ?_ ?_
      rotate_left
      · intro w'
        go_simp
        with_reducible rfl
      rotate_left
      · simp only [Act.put, List.setIfInBounds_toArray, List.set_cons_zero, List.set_cons_succ, i64_w, i32_w]
        rfl
      refine pure_ (i := 7) (N := some 23) (v := ?_) (a' := ?_) #[true, true, true, true, false, true, true, true, false, false, false, false, false, false, false, false, false] rfl rfl (any_of HT_.out (by kernel_rfl)) (fun _ _ _ h => h) (Or.inl ⟨by rfl, ?_⟩) ?_ ?_
      rotate_left
      · intro w'
        go_simp
        with_reducible rfl
      rotate_left
      · simp only [Act.put, List.setIfInBounds_toArray, List.set_cons_zero, List.set_cons_succ, i64_w, i32_w]
        rfl
      refine take_ (i := 4) (N := some 20) (v := ?_) (a' := ?_) #[true, true, true, true, true, true, true, true, false, false, false, false, false, false, false, false, false] rfl rfl (take_ofW HT_.out HW_.out (by kernel_rfl)) (fun _ _ _ h => h) (Or.inl ⟨by rfl, ?_⟩) hHeld ?_ ?_
      rotate_left
      · rintro w' ⟨s0, s1, s2⟩
        go_simp
        with_reducible rfl
      rotate_left
      · simp only [Act.put, List.setIfInBounds_toArray, List.set_cons_zero, List.set_cons_succ, i64_w, i32_w]
        rfl
      refine take_ (i := 8) (N := some 24) (v := ?_) (a' := ?_) #[true, true, true, true, true, true, true, true, true, false, false, false, false, false, false, false, false] rfl rfl (take_ofW HT_.out HW_.out (by kernel_rfl)) (fun _ _ _ h => h) (Or.inl ⟨by rfl, ?_⟩) hHeld ?_ ?_
      rotate_left
      · rintro w' ⟨s0, s1, s2⟩
        go_simp
        with_reducible rfl
      rotate_left
      · simp only [Act.put, List.setIfInBounds_toArray, List.set_cons_zero, List.set_cons_succ, i64_w, i32_w]
        rfl
      refine one_ (i := 9) (N := some 25) #[true, true, true, true, true, true, true, true, true, true, false, false, false, false, false, false, false] rfl rfl (one_of HT_.out (by kernel_rfl)) (by decide) (fun K hK => ?_)
      refine goesT_ Tryd.func65 (by kernel_rfl) rfl #[.string s0_0, .int .i64 s0_1] (by rfl) rfl rfl rfl (by (try simp only [List.map_toArray, List.map_cons, List.map_nil]); first | done | rfl | (simp only [List.length_drop, List.length_take]; rfl)) ?_
      with_reducible refine (codec_Reader_Null_1.calls k s0_0 s0_1 t349 t350 true _ ?side99  A3.out).mono ?_
      (case side99 => first | exact HG.out | exact Glob.below HG.out (by repeat (first | (with_reducible first | exact HB.out | apply below_alloc | apply pw_below_drewN | apply below_drew1 | refine below_set ?_ (IsS78.ge HI0.out)) | exact HB.out)))
      rintro e w' ⟨rfl, ⟨nd, rfl⟩⟩
      refine ⟨_, rfl, ?_⟩
      refine hK.out _ _ ⟨(blk_cell (Aside0.mk HI0.out.1).out 0).trans rfl, (blk_cell (Aside0.mk HI0.out.1).out 1).trans rfl, (blk_cell (Aside0.mk HI0.out.1).out 2).trans rfl⟩ (fun hHeld => ?_)
      clear hK K
      refine norm_ (a' := ?_) ?_ ?_
      rotate_left
      · show Act.put _ (some 25) _ = _
        simp only [Act.put, List.setIfInBounds_toArray, List.set_cons_zero, List.set_cons_succ, i64_w, i32_w]
        rfl
      refine pure_ (i := 10) (N := some 15) (v := ?_) (a' := ?_) #[true, true, true, true, true, true, true, true, true, true, true, false, false, false, false, false, false] rfl rfl (any_of HT_.out (by kernel_rfl)) (fun _ _ _ h => h) (Or.inl ⟨by rfl, ?_⟩) ?_ ?_
      rotate_left
      · intro w'
        go_simp
        with_reducible rfl
      rotate_left
      · simp only [Act.put, List.setIfInBounds_toArray, List.set_cons_zero, List.set_cons_succ, i64_w, i32_w]
        rfl
      refine pure_ (i := 11) (N := some 26) (v := ?_) (a' := ?_) #[true, true, true, true, true, true, true, true, true, true, true, true, false, false, false, false, false] rfl rfl (any_of HT_.out (by kernel_rfl)) (fun _ _ _ h => h) (Or.inl ⟨by rfl, ?_⟩) ?_ ?_
      rotate_left
      · intro w'
        go_simp
        with_reducible rfl
      rotate_left
      · simp only [Act.put, List.setIfInBounds_toArray, List.set_cons_zero, List.set_cons_succ, i64_w, i32_w]
        rfl
      refine pure_ (i := 12) (N := some 27) (v := ?_) (a' := ?_) #[true, true, true, true, true, true, true, true, true, true, true, true, true, false, false, false, false] rfl rfl (any_of HT_.out (by kernel_rfl)) (fun _ _ _ h => h) (Or.inl ⟨by rfl, ?_⟩) ?_ ?_
      rotate_left
      · intro w'
        go_simp
        with_reducible rfl
      rotate_left
      · simp only [Act.put, List.setIfInBounds_toArray, List.set_cons_zero, List.set_cons_succ, i64_w, i32_w]
        rfl
      refine pure_ (i := 13) (N := some 28) (v := ?_) (a' := ?_) #[true, true, true, true, true, true, true, true, true, true, true, true, true, true, false, false, false] rfl rfl (any_of HT_.out (by kernel_rfl)) (fun _ _ _ h => h) (Or.inl ⟨by rfl, ?_⟩) ?_ ?_
      rotate_left
      · intro w'
        go_simp
        with_reducible rfl
      rotate_left
      · simp only [Act.put, List.setIfInBounds_toArray, List.set_cons_zero, List.set_cons_succ, i64_w, i32_w]
        rfl
      refine pure_ (i := 14) (N := some 6) (v := ?_) (a' := ?_) #[true, true, true, true, true, true, true, true, true, true, true, true, true, true, true, false, false] rfl rfl (any_of HT_.out (by kernel_rfl)) (fun _ _ _ h => h) (Or.inl ⟨by rfl, ?_⟩) ?_ ?_
      rotate_left
      · intro w'
        go_simp
        with_reducible rfl
      rotate_left
      · simp only [Act.put, List.setIfInBounds_toArray, List.set_cons_zero, List.set_cons_succ, i64_w, i32_w]
        rfl
      refine pure_ (i := 15) (N := some 7) (v := ?_) (a' := ?_) #[true, true, true, true, true, true, true, true, true, true, true, true, true, true, true, true, false] rfl rfl (any_of HT_.out (by kernel_rfl)) (fun _ _ _ h => h) (Or.inl ⟨by rfl, ?_⟩) ?_ ?_
      rotate_left
      · intro w'
        go_simp
        with_reducible rfl
      rotate_left
      · simp only [Act.put, List.setIfInBounds_toArray, List.set_cons_zero, List.set_cons_succ, i64_w, i32_w]
        rfl
      refine pure_ (i := 16) (N := some 8) (v := ?_) (a' := ?_) #[true, true, true, true, true, true, true, true, true, true, true, true, true, true, true, true, true] rfl rfl (any_of HT_.out (by kernel_rfl)) (fun _ _ _ h => h) (Or.inl ⟨by rfl, ?_⟩) ?_ ?_
      rotate_left
      · intro w'
        go_simp
        with_reducible rfl
      rotate_left
      · simp only [Act.put, List.setIfInBounds_toArray, List.set_cons_zero, List.set_cons_succ, i64_w, i32_w]
        rfl
      refine done_ (done_of HT_.out (by kernel_rfl)) ?_
      obtain ⟨HGz7, hgz7⟩ := HI0.out
      have hcz7_0 := cellS78_0 HGz7
      have hcz7_1 := cellS78_1 HGz7
      have hcz7_2 := cellS78_2 HGz7
      have hfz7_0 := blk_frozen HGz7 0
      have hfz7_1 := blk_frozen HGz7 1
      have hfz7_2 := blk_frozen HGz7 2
      clear HGz7 hgz7
      try go_wp2_with (first | (go_at_call 58; go_in) | ((try simp only [Exit.inBlock, Exit.then]); refine bodyPost_end (results_none rfl _ _ _) rfl ?_; simp only []; go_at_K))
      first | go_end0 | ((try simp only [Exit.inBlock, Exit.then]); refine bodyPost_ret (results_none rfl _ _ _) rfl ?_)
      exact ⟨by first | rfl | (simp [errW_none, errW_some] <;> rfl) | (simp [*, errW_none, errW_some] <;> rfl), by repeat (first | (with_reducible first | exact HI0.out | apply IsS78.alloc | apply IsS78.drewN | apply IsS78.drew | apply IsS78.set_0 | apply IsS78.set_1 | apply IsS78.set_2) | exact HI0.out), by repeat (first | (with_reducible first | exact HB.out | apply below_alloc | apply pw_below_drewN | apply below_drew1 | refine below_set ?_ (IsS78.ge HI0.out)) | exact HB.out), by repeat (first | (with_reducible first | exact HK.out | apply KeepBut.set_ | apply keep_drewN | apply keep_drew | apply keep_alloc) | exact HK.out)⟩
    · replace c4 := Bool.eq_false_iff.mpr c4
      subst c4
      have H1 : (some (s0_0, s0_1, 2)) = some (r1, r2, r3) := by rw [if_neg (show ¬ (false = true) by decide)] at H; exact H
      clear H
      have H := H1
      clear H1
      simp only [Option.some.injEq, Prod.mk.injEq] at H
      obtain ⟨rfl, rfl, rfl⟩ := H
      obtain ⟨HGz8, hgz8⟩ := HI0.out
      have hcz8_0 := cellS78_0 HGz8
      have hcz8_1 := cellS78_1 HGz8
      have hcz8_2 := cellS78_2 HGz8
      have hfz8_0 := blk_frozen HGz8 0
      have hfz8_1 := blk_frozen HGz8 1
      have hfz8_2 := blk_frozen HGz8 2
      clear HGz8 hgz8
      go_enter Tryd.func60, Tryd.ntmps60
      try go_wp2_with (first | (go_at_call 58; go_in) | ((try simp only [Exit.inBlock, Exit.then]); refine bodyPost_end (results_none rfl _ _ _) rfl ?_; simp only []; go_at_K))
      have n0_ := Aside0.mk (IsS78.drew HI0.out)
      have n1_ := Aside0.mk (keep_drew HK.out)
      have n2_ := Aside0.mk (below_drew1 HB.out)
      clear HI0
      clear HK
      clear HB
      have HI0 := n0_
      have HK := n1_
      have HB := n2_
      clear n0_ n1_ n2_
      refine start_ (n := 17) (S := fun w' => w'.cell? ⟨g, 0, none⟩ = some (.string s0_0) ∧ w'.cell? ⟨g, 1, none⟩ = some (.int .i64 s0_1) ∧ w'.cell? ⟨g, 2, none⟩ = some (.int .i64 s0_2)) (ds := []) #[false, false, false, false, false, false, false, false, false, false, false, false, false, false, false, false, false] (by kernel_rfl) rfl rfl ⟨(blk_cell (Aside0.mk HI0.out.1).out 0).trans rfl, (blk_cell (Aside0.mk HI0.out.1).out 1).trans rfl, (blk_cell (Aside0.mk HI0.out.1).out 2).trans rfl⟩ (fun hHeld => ?_); refine with_tabW codec_Reader_Null.tab58004 codec_Reader_Null.bits58004 (fun HT_ HW_ => ?_)
      generalize w.drew = w9 at HI0 HK HB hHeld ⊢
      refine pure_ (i := 0) (N := some 16) (v := ?_) (a' := ?_) #[true, false, false, false, false, false, false, false, false, false, false, false, false, false, false, false, false] rfl rfl (any_of HT_.out (by kernel_rfl)) (fun _ _ _ h => h) (Or.inl ⟨by rfl, ?_⟩) ?_ ?_
      rotate_left
      · intro w'
        go_simp
        with_reducible rfl
      rotate_left
      · simp only [Act.put, List.setIfInBounds_toArray, List.set_cons_zero, List.set_cons_succ, i64_w, i32_w]
        rfl
      refine pure_ (i := 1) (N := some 17) (v := ?_) (a' := ?_) #[true, true, false, false, false, false, false, false, false, false, false, false, false, false, false, false, false] rfl rfl (any_of HT_.out (by kernel_rfl)) (fun _ _ _ h => h) (Or.inl ⟨by rfl, ?_⟩) ?_ ?_
      rotate_left
      · intro w'
        go_simp
        with_reducible rfl
      rotate_left
      · simp only [Act.put, List.setIfInBounds_toArray, List.set_cons_zero, List.set_cons_succ, i64_w, i32_w]
        rfl
      refine pure_ (i := 2) (N := some 18) (v := ?_) (a' := ?_) #[true, true, true, false, false, false, false, false, false, false, false, false, false, false, false, false, false] rfl rfl (any_of HT_.out (by kernel_rfl)) (fun _ _ _ h => h) (Or.inl ⟨by rfl, ?_⟩) ?_ ?_
      rotate_left
      · intro w'
        go_simp
        with_reducible rfl
      rotate_left
      · simp only [Act.put, List.setIfInBounds_toArray, List.set_cons_zero, List.set_cons_succ, i64_w, i32_w]
        rfl
      refine pure_ (i := 3) (N := some 19) (v := ?_) (a' := ?_) #[true, true, true, true, false, false, false, false, false, false, false, false, false, false, false, false, false] rfl rfl (any_of HT_.out (by kernel_rfl)) (fun _ _ _ h => h) (Or.inl ⟨by rfl, ?_⟩) ?_ ?_
      rotate_left
      · intro w'
        go_simp
        with_reducible rfl
      rotate_left
      · simp only [Act.put, List.setIfInBounds_toArray, List.set_cons_zero, List.set_cons_succ, i64_w, i32_w]
        rfl
      refine pure_ (i := 5) (N := some 21) (v := ?_) (a' := ?_) #[true, true, true, true, false, true, false, false, false, false, false, false, false, false, false, false, false] rfl rfl (any_of HT_.out (by kernel_rfl)) (fun _ _ _ h => h) (Or.inl ⟨by rfl, ?_⟩) ?_ ?_
      rotate_left
      · intro w'
        go_simp
        with_reducible rfl
      rotate_left
      · simp only [Act.put, List.setIfInBounds_toArray, List.set_cons_zero, List.set_cons_succ, i64_w, i32_w]
        rfl
      refine pure_ (i := 6) (N := some 22) (v := ?_) (a' := ?_) #[true, true, true, true, false, true, true, false, false, false, false, false, false, false, false, false, false] rfl rfl (any_of HT_.out (by kernel_rfl)) (fun _ _ _ h => h) (Or.inl ⟨by rfl, ?_⟩) ?_ ?_
      rotate_left
      · intro w'
        go_simp
        with_reducible rfl
      rotate_left
      · simp only [Act.put, List.setIfInBounds_toArray, List.set_cons_zero, List.set_cons_succ, i64_w, i32_w]
        rfl
      refine pure_ (i := 7) (N := some 23) (v := ?_) (a' := ?_) #[true, true, true, true, false, true, true, true, false, false, false, false, false, false, false, false, false] rfl rfl (any_of HT_.out (by kernel_rfl)) (fun _ _ _ h => h) (Or.inl ⟨by rfl, ?_⟩) ?_ ?_
      rotate_left
      · intro w'
        go_simp
        with_reducible rfl
      rotate_left
      · simp only [Act.put, List.setIfInBounds_toArray, List.set_cons_zero, List.set_cons_succ, i64_w, i32_w]
        rfl
      refine take_ (i := 4) (N := some 20) (v := ?_) (a' := ?_) #[true, true, true, true, true, true, true, true, false, false, false, false, false, false, false, false, false] rfl rfl (take_ofW HT_.out HW_.out (by kernel_rfl)) (fun _ _ _ h => h) (Or.inl ⟨by rfl, ?_⟩) hHeld ?_ ?_
      rotate_left
      · rintro w' ⟨s0, s1, s2⟩
        go_simp
        with_reducible rfl
      rotate_left
      · simp only [Act.put, List.setIfInBounds_toArray, List.set_cons_zero, List.set_cons_succ, i64_w, i32_w]
        rfl
      refine take_ (i := 8) (N := some 24) (v := ?_) (a' := ?_) #[true, true, true, true, true, true, true, true, true, false, false, false, false, false, false, false, false] rfl rfl (take_ofW HT_.out HW_.out (by kernel_rfl)) (fun _ _ _ h => h) (Or.inl ⟨by rfl, ?_⟩) hHeld ?_ ?_
      rotate_left
      · rintro w' ⟨s0, s1, s2⟩
        go_simp
        with_reducible rfl
      rotate_left
      · simp only [Act.put, List.setIfInBounds_toArray, List.set_cons_zero, List.set_cons_succ, i64_w, i32_w]
        rfl
      refine one_ (i := 9) (N := some 25) #[true, true, true, true, true, true, true, true, true, true, false, false, false, false, false, false, false] rfl rfl (one_of HT_.out (by kernel_rfl)) (by decide) (fun K hK => ?_)
      refine goesT_ Tryd.func65 (by kernel_rfl) rfl #[.string s0_0, .int .i64 s0_1] (by rfl) rfl rfl rfl (by (try simp only [List.map_toArray, List.map_cons, List.map_nil]); first | done | rfl | (simp only [List.length_drop, List.length_take]; rfl)) ?_
      with_reducible refine (codec_Reader_Null_1.calls k s0_0 s0_1 t349 t350 false _ ?side99  A3.out).mono ?_
      (case side99 => first | exact HG.out | exact Glob.below HG.out (by repeat (first | (with_reducible first | exact HB.out | apply below_alloc | apply pw_below_drewN | apply below_drew1 | refine below_set ?_ (IsS78.ge HI0.out)) | exact HB.out)))
      rintro e w' ⟨rfl, ⟨nd, rfl⟩⟩
      refine ⟨_, rfl, ?_⟩
      refine hK.out _ _ ⟨(blk_cell (Aside0.mk HI0.out.1).out 0).trans rfl, (blk_cell (Aside0.mk HI0.out.1).out 1).trans rfl, (blk_cell (Aside0.mk HI0.out.1).out 2).trans rfl⟩ (fun hHeld => ?_)
      clear hK K
      refine norm_ (a' := ?_) ?_ ?_
      rotate_left
      · show Act.put _ (some 25) _ = _
        simp only [Act.put, List.setIfInBounds_toArray, List.set_cons_zero, List.set_cons_succ, i64_w, i32_w]
        rfl
      refine pure_ (i := 10) (N := some 15) (v := ?_) (a' := ?_) #[true, true, true, true, true, true, true, true, true, true, true, false, false, false, false, false, false] rfl rfl (any_of HT_.out (by kernel_rfl)) (fun _ _ _ h => h) (Or.inl ⟨by rfl, ?_⟩) ?_ ?_
      rotate_left
      · intro w'
        go_simp
        with_reducible rfl
      rotate_left
      · simp only [Act.put, List.setIfInBounds_toArray, List.set_cons_zero, List.set_cons_succ, i64_w, i32_w]
        rfl
      refine pure_ (i := 11) (N := some 26) (v := ?_) (a' := ?_) #[true, true, true, true, true, true, true, true, true, true, true, true, false, false, false, false, false] rfl rfl (any_of HT_.out (by kernel_rfl)) (fun _ _ _ h => h) (Or.inl ⟨by rfl, ?_⟩) ?_ ?_
      rotate_left
      · intro w'
        go_simp
        with_reducible rfl
      rotate_left
      · simp only [Act.put, List.setIfInBounds_toArray, List.set_cons_zero, List.set_cons_succ, i64_w, i32_w]
        rfl
      refine pure_ (i := 12) (N := some 27) (v := ?_) (a' := ?_) #[true, true, true, true, true, true, true, true, true, true, true, true, true, false, false, false, false] rfl rfl (any_of HT_.out (by kernel_rfl)) (fun _ _ _ h => h) (Or.inl ⟨by rfl, ?_⟩) ?_ ?_
      rotate_left
      · intro w'
        go_simp
        with_reducible rfl
      rotate_left
      · simp only [Act.put, List.setIfInBounds_toArray, List.set_cons_zero, List.set_cons_succ, i64_w, i32_w]
        rfl
      refine pure_ (i := 13) (N := some 28) (v := ?_) (a' := ?_) #[true, true, true, true, true, true, true, true, true, true, true, true, true, true, false, false, false] rfl rfl (any_of HT_.out (by kernel_rfl)) (fun _ _ _ h => h) (Or.inl ⟨by rfl, ?_⟩) ?_ ?_
      rotate_left
      · intro w'
        go_simp
        with_reducible rfl
      rotate_left
      · simp only [Act.put, List.setIfInBounds_toArray, List.set_cons_zero, List.set_cons_succ, i64_w, i32_w]
        rfl
      refine pure_ (i := 14) (N := some 6) (v := ?_) (a' := ?_) #[true, true, true, true, true, true, true, true, true, true, true, true, true, true, true, false, false] rfl rfl (any_of HT_.out (by kernel_rfl)) (fun _ _ _ h => h) (Or.inl ⟨by rfl, ?_⟩) ?_ ?_
      rotate_left
      · intro w'
        go_simp
        with_reducible rfl
      rotate_left
      · simp only [Act.put, List.setIfInBounds_toArray, List.set_cons_zero, List.set_cons_succ, i64_w, i32_w]
        rfl
      refine pure_ (i := 15) (N := some 7) (v := ?_) (a' := ?_) #[true, true, true, true, true, true, true, true, true, true, true, true, true, true, true, true, false] rfl rfl (any_of HT_.out (by kernel_rfl)) (fun _ _ _ h => h) (Or.inl ⟨by rfl, ?_⟩) ?_ ?_
      rotate_left
      · intro w'
        go_simp
        with_reducible rfl
      rotate_left
      · simp only [Act.put, List.setIfInBounds_toArray, List.set_cons_zero, List.set_cons_succ, i64_w, i32_w]
        rfl
      refine pure_ (i := 16) (N := some 8) (v := ?_) (a' := ?_) #[true, true, true, true, true, true, true, true, true, true, true, true, true, true, true, true, true] rfl rfl (any_of HT_.out (by kernel_rfl)) (fun _ _ _ h => h) (Or.inl ⟨by rfl, ?_⟩) ?_ ?_
      rotate_left
      · intro w'
        go_simp
        with_reducible rfl
      rotate_left
      · simp only [Act.put, List.setIfInBounds_toArray, List.set_cons_zero, List.set_cons_succ, i64_w, i32_w]
        rfl
      refine done_ (done_of HT_.out (by kernel_rfl)) ?_
      obtain ⟨HGz10, hgz10⟩ := HI0.out
      have hcz10_0 := cellS78_0 HGz10
      have hcz10_1 := cellS78_1 HGz10
      have hcz10_2 := cellS78_2 HGz10
      have hfz10_0 := blk_frozen HGz10 0
      have hfz10_1 := blk_frozen HGz10 1
      have hfz10_2 := blk_frozen HGz10 2
      clear HGz10 hgz10
      try go_wp2_with (first | (go_at_call 58; go_in) | ((try simp only [Exit.inBlock, Exit.then]); refine bodyPost_end (results_none rfl _ _ _) rfl ?_; simp only []; go_at_K))
      first | go_end0 | ((try simp only [Exit.inBlock, Exit.then]); refine bodyPost_ret (results_none rfl _ _ _) rfl ?_)
      exact ⟨by first | rfl | (simp [errW_none, errW_some] <;> rfl) | (simp [*, errW_none, errW_some] <;> rfl), by repeat (first | (with_reducible first | exact HI0.out | apply IsS78.alloc | apply IsS78.drewN | apply IsS78.drew | apply IsS78.set_0 | apply IsS78.set_1 | apply IsS78.set_2) | exact HI0.out), by repeat (first | (with_reducible first | exact HB.out | apply below_alloc | apply pw_below_drewN | apply below_drew1 | refine below_set ?_ (IsS78.ge HI0.out)) | exact HB.out), by repeat (first | (with_reducible first | exact HK.out | apply KeepBut.set_ | apply keep_drewN | apply keep_drew | apply keep_alloc) | exact HK.out)⟩
  · rw [if_neg c2] at H
    have c2b0 : (s0_2 == 0) = false := beq_eq_false_iff_ne.mpr c2
    have c2b1 : (s0_2 != 0) = true := bne_iff_ne.mpr c2
    simp only [Option.some.injEq, Prod.mk.injEq] at H
    obtain ⟨rfl, rfl, rfl⟩ := H
    obtain ⟨HGz11, hgz11⟩ := HI0.out
    have hcz11_0 := cellS78_0 HGz11
    have hcz11_1 := cellS78_1 HGz11
    have hcz11_2 := cellS78_2 HGz11
    have hfz11_0 := blk_frozen HGz11 0
    have hfz11_1 := blk_frozen HGz11 1
    have hfz11_2 := blk_frozen HGz11 2
    clear HGz11 hgz11
    go_enter Tryd.func60, Tryd.ntmps60
    go_wp2_with (first | (go_at_call 58; go_in) | ((try simp only [Exit.inBlock, Exit.then]); refine bodyPost_end (results_none rfl _ _ _) rfl ?_; simp only []; go_at_K))
    first | go_end0 | ((try simp only [Exit.inBlock, Exit.then]); refine bodyPost_ret (results_none rfl _ _ _) rfl ?_)
    exact ⟨by first | rfl | (simp [errW_none, errW_some] <;> rfl) | (simp [*, errW_none, errW_some] <;> rfl), by repeat (first | (with_reducible first | exact HI0.out | apply IsS78.alloc | apply IsS78.drewN | apply IsS78.drew | apply IsS78.set_0 | apply IsS78.set_1 | apply IsS78.set_2) | exact HI0.out), by repeat (first | (with_reducible first | exact HB.out | apply below_alloc | apply pw_below_drewN | apply below_drew1 | refine below_set ?_ (IsS78.ge HI0.out)) | exact HB.out), by repeat (first | (with_reducible first | exact HK.out | apply KeepBut.set_ | apply keep_drewN | apply keep_drew | apply keep_alloc) | exact HK.out)⟩
end Go.Proofs.YtndeikikeeeigaaDoor.Q
end
section
namespace Go.Proofs.YtndeikikeeeigaaDoor.Q
open Go.RowKit Go.Proofs.YtndeikikeeeigaaDoorW.PrintWords Go.Proofs.YtndeikikeeeigaaDoorW.PrintLast Go.Proofs.YtndeikikeeeigaaDoorW.PrintMore
attribute [local go_sem] max2_int min2_int max_two min_two max_three min_three max_four min_four
set_option linter.unusedVariables false
set_option linter.unusedSimpArgs false
def plenumlaw02_step.f (k : Nat) (s0_0 : ByteArray) (s0_1 : Int) (s0_2 : Int) (a1 : ByteArray) (a2 : Int) (a3 : Int) : Option (Int × Bool × Bool × ByteArray × Int × Int) := if a3 = 1 then ((codec_Reader_Null.f k s0_0 s0_1 s0_2).bind fun bt352 => (if a2 < (a1.size : Int) then (if 0 ≤ a2 then (if ((bt a1 a2) = 0) then (some (wrap64 (a2 + 1), ((bt a1 a2) == 0), true, bt352.1, bt352.2.1, bt352.2.2)) else (some (a2, ((bt a1 a2) == 0), true, bt352.1, bt352.2.1, bt352.2.2))) else (none)) else (some (a2, false, true, bt352.1, bt352.2.1, bt352.2.2)))) else (if a3 = 2 then ((codec_Reader_Bool.f k s0_0 s0_1 s0_2).bind fun bt355 => (if a2 < (a1.size : Int) then (if 0 ≤ a2 then (if (bt a1 a2) = 1 then (some (wrap64 (a2 + 1), true, (bt355.1 == ((bt a1 a2) == 2)), bt355.2.1, bt355.2.2.1, bt355.2.2.2)) else (if (bt a1 a2) = 2 then (some (wrap64 (a2 + 1), ((bt a1 a2) == 2), (bt355.1 == ((bt a1 a2) == 2)), bt355.2.1, bt355.2.2.1, bt355.2.2.2)) else (some (a2, ((bt a1 a2) == 2), (bt355.1 == false), bt355.2.1, bt355.2.2.1, bt355.2.2.2)))) else (none)) else (some (a2, false, (bt355.1 == false), bt355.2.1, bt355.2.2.1, bt355.2.2.2)))) else (if a3 = 3 then ((plenumref02_ReadUnsigned.f k a1 a2).bind fun bt359 => ((codec_Reader_Unsigned.f k s0_0 s0_1 s0_2).bind fun bt362 => (if bt359.2.2 = true then (some (bt359.2.1, bt359.2.2, (bt362.1 == bt359.1), bt362.2.1, bt362.2.2.1, bt362.2.2.2)) else (some (a2, bt359.2.2, (bt362.1 == bt359.1), bt362.2.1, bt362.2.2.1, bt362.2.2.2))))) else (if a3 = 4 then ((plenumref02_ReadSigned.f k a1 a2).bind fun bt366 => ((codec_Reader_Signed.f k s0_0 s0_1 s0_2).bind fun bt369 => (if bt366.2.2 = true then (some (bt366.2.1, bt366.2.2, (bt369.1 == bt366.1), bt369.2.1, bt369.2.2.1, bt369.2.2.2)) else (some (a2, bt366.2.2, (bt369.1 == bt366.1), bt369.2.1, bt369.2.2.1, bt369.2.2.2))))) else (if a3 = 5 then ((plenumref02_ReadText.f k a1 a2).bind fun bt373 => ((codec_Reader_Text.f k s0_0 s0_1 s0_2).bind fun bt376 => (if bt373.2.2 = true then (some (bt373.2.1, bt373.2.2, (bt376.1.toList == bt373.1.toList), bt376.2.1, bt376.2.2.1, bt376.2.2.2)) else (some (a2, bt373.2.2, (bt376.1.toList == bt373.1.toList), bt376.2.1, bt376.2.2.1, bt376.2.2.2))))) else (if a3 = 6 then ((plenumref02_ReadHead.f k a1 a2).bind fun bt380 => ((codec_Reader_List.f k s0_0 s0_1 s0_2).bind fun bt383 => (if bt380.2.2 = true then (some (bt380.2.1, bt380.2.2, (bt383.1 == bt380.1), bt383.2.1, bt383.2.2.1, bt383.2.2.2)) else (some (a2, bt380.2.2, (bt383.1 == bt380.1), bt383.2.1, bt383.2.2.1, bt383.2.2.2))))) else (some (a2, true, true, s0_0, s0_1, s0_2)))))))
set_option maxHeartbeats 8000000 in
set_option maxRecDepth 100000 in
theorem plenumlaw02_step.calls (k : Nat) (g : Nat) (s0_0 : ByteArray) (s0_1 : Int) (s0_2 : Int) (a1 : ByteArray) (a2 : Int) (a3 : Int) (r1 : Int) (r2 : Bool) (r3 : Bool) (r4 : ByteArray) (r5 : Int) (r6 : Int) (w0 w : World) (hG : Glob w0) (hI : IsS78 w0 w g s0_0 s0_1 s0_2) (hB : Below w0.heap.size w0 w) (h : plenumlaw02_step.f k s0_0 s0_1 s0_2 a1 a2 a3 = some (r1, r2, r3, r4, r5, r6)) :
    Calls Tryd.prog 31 #[.pointer (some ⟨g, 0, none⟩), .string a1, .int .i64 a2, .int .i64 a3] w fun e w' => e = .returned (.tuple #[.int .i64 r1, .bool r2, .bool r3]) ∧ IsS78 w0 w' g r4 r5 r6 ∧ Below w0.heap.size w0 w' ∧ KeepBut w w' g none := by
  have HG := Aside0.mk hG
  clear hG
  have HI0 := Aside0.mk hI
  have HK := Aside0.mk (KeepBut.refl w g none)
  have HL := Aside0.mk hB.size
  clear hI
  have HW0 := Aside0.mk hB.size
  have HB := Aside0.mk hB
  clear hB
  have H : (if a3 = 1 then ((codec_Reader_Null.f k s0_0 s0_1 s0_2).bind fun bt352 => (if a2 < (a1.size : Int) then (if 0 ≤ a2 then (if ((bt a1 a2) = 0) then (some (wrap64 (a2 + 1), ((bt a1 a2) == 0), true, bt352.1, bt352.2.1, bt352.2.2)) else (some (a2, ((bt a1 a2) == 0), true, bt352.1, bt352.2.1, bt352.2.2))) else (none)) else (some (a2, false, true, bt352.1, bt352.2.1, bt352.2.2)))) else (if a3 = 2 then ((codec_Reader_Bool.f k s0_0 s0_1 s0_2).bind fun bt355 => (if a2 < (a1.size : Int) then (if 0 ≤ a2 then (if (bt a1 a2) = 1 then (some (wrap64 (a2 + 1), true, (bt355.1 == ((bt a1 a2) == 2)), bt355.2.1, bt355.2.2.1, bt355.2.2.2)) else (if (bt a1 a2) = 2 then (some (wrap64 (a2 + 1), ((bt a1 a2) == 2), (bt355.1 == ((bt a1 a2) == 2)), bt355.2.1, bt355.2.2.1, bt355.2.2.2)) else (some (a2, ((bt a1 a2) == 2), (bt355.1 == false), bt355.2.1, bt355.2.2.1, bt355.2.2.2)))) else (none)) else (some (a2, false, (bt355.1 == false), bt355.2.1, bt355.2.2.1, bt355.2.2.2)))) else (if a3 = 3 then ((plenumref02_ReadUnsigned.f k a1 a2).bind fun bt359 => ((codec_Reader_Unsigned.f k s0_0 s0_1 s0_2).bind fun bt362 => (if bt359.2.2 = true then (some (bt359.2.1, bt359.2.2, (bt362.1 == bt359.1), bt362.2.1, bt362.2.2.1, bt362.2.2.2)) else (some (a2, bt359.2.2, (bt362.1 == bt359.1), bt362.2.1, bt362.2.2.1, bt362.2.2.2))))) else (if a3 = 4 then ((plenumref02_ReadSigned.f k a1 a2).bind fun bt366 => ((codec_Reader_Signed.f k s0_0 s0_1 s0_2).bind fun bt369 => (if bt366.2.2 = true then (some (bt366.2.1, bt366.2.2, (bt369.1 == bt366.1), bt369.2.1, bt369.2.2.1, bt369.2.2.2)) else (some (a2, bt366.2.2, (bt369.1 == bt366.1), bt369.2.1, bt369.2.2.1, bt369.2.2.2))))) else (if a3 = 5 then ((plenumref02_ReadText.f k a1 a2).bind fun bt373 => ((codec_Reader_Text.f k s0_0 s0_1 s0_2).bind fun bt376 => (if bt373.2.2 = true then (some (bt373.2.1, bt373.2.2, (bt376.1.toList == bt373.1.toList), bt376.2.1, bt376.2.2.1, bt376.2.2.2)) else (some (a2, bt373.2.2, (bt376.1.toList == bt373.1.toList), bt376.2.1, bt376.2.2.1, bt376.2.2.2))))) else (if a3 = 6 then ((plenumref02_ReadHead.f k a1 a2).bind fun bt380 => ((codec_Reader_List.f k s0_0 s0_1 s0_2).bind fun bt383 => (if bt380.2.2 = true then (some (bt380.2.1, bt380.2.2, (bt383.1 == bt380.1), bt383.2.1, bt383.2.2.1, bt383.2.2.2)) else (some (a2, bt380.2.2, (bt383.1 == bt380.1), bt383.2.1, bt383.2.2.1, bt383.2.2.2))))) else (some (a2, true, true, s0_0, s0_1, s0_2)))))))) = some (r1, r2, r3, r4, r5, r6) := h
  clear h
  by_cases c5 : a3 = 1
  · rw [if_pos c5] at H
    have c5b0 : (a3 == 1) = true := beq_iff_eq.mpr c5
    have c5b1 : (a3 != 1) = false := bne_eq_false_iff_eq.mpr c5
    clear c5
    replace H := Option.bind_eq_some_iff.mp H
    obtain ⟨⟨t352, t353, t354⟩, A60, H⟩ := H
    replace H : (if a2 < (a1.size : Int) then (if 0 ≤ a2 then (if ((bt a1 a2) = 0) then (some (wrap64 (a2 + 1), ((bt a1 a2) == 0), true, t352, t353, t354)) else (some (a2, ((bt a1 a2) == 0), true, t352, t353, t354))) else (none)) else (some (a2, false, true, t352, t353, t354))) = some (r1, r2, r3, r4, r5, r6) := H
    have A6 := Aside0.mk A60
    clear A60
    by_cases c7 : a2 < (a1.size : Int)
    · rw [if_pos c7] at H
      have c7b0 : decide (a2 < (a1.size : Int)) = true := decide_eq_true c7
      clear c7
      by_cases c8 : 0 ≤ a2
      · rw [if_pos c8] at H
        have c8b0 : decide (0 ≤ a2) = true := decide_eq_true c8
        clear c8
        by_cases c10 : ((bt a1 a2) = 0)
        · rw [if_pos c10] at H
          have c10b0 : ((bt a1 a2) == 0) = true := beq_iff_eq.mpr c10
          have c10b1 : ((bt a1 a2) != 0) = false := bne_eq_false_iff_eq.mpr c10
          clear c10
          simp only [Option.some.injEq, Prod.mk.injEq] at H
          obtain ⟨rfl, rfl, rfl, rfl, rfl, rfl⟩ := H
          go_enter Tryd.func31, Tryd.ntmps31
          go_wp2_with (first | (go_at_call 60; (with_reducible refine (codec_Reader_Null.calls k g s0_0 s0_1 s0_2 t352 t353 t354 w0 _ ?side99  ?side1 ?side2 A6.out).mono ?_); (case side1 => repeat (first | (with_reducible first | exact HI0.out | apply IsS78.alloc | apply IsS78.drewN | apply IsS78.drew | apply IsS78.set_0 | apply IsS78.set_1 | apply IsS78.set_2) | exact HI0.out)); (case side2 => repeat (first | (with_reducible first | exact HB.out | apply below_alloc | apply pw_below_drewN | apply below_drew1 | refine below_set ?_ (IsS78.ge HI0.out)) | exact HB.out)); (case side99 => exact HG.out); rintro e w11 ⟨rfl, hi, hb, hk⟩; have n0_ := Aside0.mk (KeepBut.trans (by repeat (first | (with_reducible first | exact HK.out | apply KeepBut.set_ | apply keep_drewN | apply keep_drew | apply keep_alloc) | exact HK.out)) hk (.inl rfl)); have n1_ := Aside0.mk (hb); have n2_ := Aside0.mk (hi); clear HK; clear HB; clear HI0; have HK := n0_; have HB := n1_; have HI0 := n2_; clear n0_ n1_ n2_; (try clear hb); (try clear hb2); (try clear hk); (try clear hi); have p9 : 0 ≤ (a2 : Int) := of_decide_eq_true (by first | (with_reducible assumption) | assumption); have q9 : a2 < (a1.size : Int) := of_decide_eq_true (by first | (with_reducible assumption) | assumption); have hx9 := bt_at a1 a2; replace p9 := eq_true p9; replace q9 := eq_true q9))
          repeat (go_quiet (first | (go_at_call 60; (with_reducible refine (codec_Reader_Null.calls k g s0_0 s0_1 s0_2 t352 t353 t354 w0 _ ?side99  ?side1 ?side2 A6.out).mono ?_); (case side1 => repeat (first | (with_reducible first | exact HI0.out | apply IsS78.alloc | apply IsS78.drewN | apply IsS78.drew | apply IsS78.set_0 | apply IsS78.set_1 | apply IsS78.set_2) | exact HI0.out)); (case side2 => repeat (first | (with_reducible first | exact HB.out | apply below_alloc | apply pw_below_drewN | apply below_drew1 | refine below_set ?_ (IsS78.ge HI0.out)) | exact HB.out)); (case side99 => exact HG.out); rintro e w11 ⟨rfl, hi, hb, hk⟩; have n0_ := Aside0.mk (KeepBut.trans (by repeat (first | (with_reducible first | exact HK.out | apply KeepBut.set_ | apply keep_drewN | apply keep_drew | apply keep_alloc) | exact HK.out)) hk (.inl rfl)); have n1_ := Aside0.mk (hb); have n2_ := Aside0.mk (hi); clear HK; clear HB; clear HI0; have HK := n0_; have HB := n1_; have HI0 := n2_; clear n0_ n1_ n2_; (try clear hb); (try clear hb2); (try clear hk); (try clear hi); have p9 : 0 ≤ (a2 : Int) := of_decide_eq_true (by first | (with_reducible assumption) | assumption); have q9 : a2 < (a1.size : Int) := of_decide_eq_true (by first | (with_reducible assumption) | assumption); have hx9 := bt_at a1 a2; replace p9 := eq_true p9; replace q9 := eq_true q9)); try go_wp2_with (first | (go_at_call 60; (with_reducible refine (codec_Reader_Null.calls k g s0_0 s0_1 s0_2 t352 t353 t354 w0 _ ?side99  ?side1 ?side2 A6.out).mono ?_); (case side1 => repeat (first | (with_reducible first | exact HI0.out | apply IsS78.alloc | apply IsS78.drewN | apply IsS78.drew | apply IsS78.set_0 | apply IsS78.set_1 | apply IsS78.set_2) | exact HI0.out)); (case side2 => repeat (first | (with_reducible first | exact HB.out | apply below_alloc | apply pw_below_drewN | apply below_drew1 | refine below_set ?_ (IsS78.ge HI0.out)) | exact HB.out)); (case side99 => exact HG.out); rintro e w11 ⟨rfl, hi, hb, hk⟩; have n0_ := Aside0.mk (KeepBut.trans (by repeat (first | (with_reducible first | exact HK.out | apply KeepBut.set_ | apply keep_drewN | apply keep_drew | apply keep_alloc) | exact HK.out)) hk (.inl rfl)); have n1_ := Aside0.mk (hb); have n2_ := Aside0.mk (hi); clear HK; clear HB; clear HI0; have HK := n0_; have HB := n1_; have HI0 := n2_; clear n0_ n1_ n2_; (try clear hb); (try clear hb2); (try clear hk); (try clear hi); have p9 : 0 ≤ (a2 : Int) := of_decide_eq_true (by first | (with_reducible assumption) | assumption); have q9 : a2 < (a1.size : Int) := of_decide_eq_true (by first | (with_reducible assumption) | assumption); have hx9 := bt_at a1 a2; replace p9 := eq_true p9; replace q9 := eq_true q9)))
          go_ret3
          exact ⟨by first | rfl | (simp [errW_none, errW_some] <;> rfl) | (simp [*, errW_none, errW_some] <;> rfl), by repeat (first | (with_reducible first | exact HI0.out | apply IsS78.alloc | apply IsS78.drewN | apply IsS78.drew | apply IsS78.set_0 | apply IsS78.set_1 | apply IsS78.set_2) | exact HI0.out), by repeat (first | (with_reducible first | exact HB.out | apply below_alloc | apply pw_below_drewN | apply below_drew1 | refine below_set ?_ (IsS78.ge HI0.out)) | exact HB.out), by repeat (first | (with_reducible first | exact HK.out | apply KeepBut.set_ | apply keep_drewN | apply keep_drew | apply keep_alloc) | exact HK.out)⟩
        · rw [if_neg c10] at H
          have c10b0 : ((bt a1 a2) == 0) = false := beq_eq_false_iff_ne.mpr c10
          have c10b1 : ((bt a1 a2) != 0) = true := bne_iff_ne.mpr c10
          simp only [Option.some.injEq, Prod.mk.injEq] at H
          obtain ⟨rfl, rfl, rfl, rfl, rfl, rfl⟩ := H
          go_enter Tryd.func31, Tryd.ntmps31
          go_wp2_with (first | (go_at_call 60; (with_reducible refine (codec_Reader_Null.calls k g s0_0 s0_1 s0_2 t352 t353 t354 w0 _ ?side99  ?side1 ?side2 A6.out).mono ?_); (case side1 => repeat (first | (with_reducible first | exact HI0.out | apply IsS78.alloc | apply IsS78.drewN | apply IsS78.drew | apply IsS78.set_0 | apply IsS78.set_1 | apply IsS78.set_2) | exact HI0.out)); (case side2 => repeat (first | (with_reducible first | exact HB.out | apply below_alloc | apply pw_below_drewN | apply below_drew1 | refine below_set ?_ (IsS78.ge HI0.out)) | exact HB.out)); (case side99 => exact HG.out); rintro e w12 ⟨rfl, hi, hb, hk⟩; have n0_ := Aside0.mk (KeepBut.trans (by repeat (first | (with_reducible first | exact HK.out | apply KeepBut.set_ | apply keep_drewN | apply keep_drew | apply keep_alloc) | exact HK.out)) hk (.inl rfl)); have n1_ := Aside0.mk (hb); have n2_ := Aside0.mk (hi); clear HK; clear HB; clear HI0; have HK := n0_; have HB := n1_; have HI0 := n2_; clear n0_ n1_ n2_; (try clear hb); (try clear hb2); (try clear hk); (try clear hi); have p9 : 0 ≤ (a2 : Int) := of_decide_eq_true (by first | (with_reducible assumption) | assumption); have q9 : a2 < (a1.size : Int) := of_decide_eq_true (by first | (with_reducible assumption) | assumption); have hx9 := bt_at a1 a2; replace p9 := eq_true p9; replace q9 := eq_true q9))
          repeat (go_quiet (first | (go_at_call 60; (with_reducible refine (codec_Reader_Null.calls k g s0_0 s0_1 s0_2 t352 t353 t354 w0 _ ?side99  ?side1 ?side2 A6.out).mono ?_); (case side1 => repeat (first | (with_reducible first | exact HI0.out | apply IsS78.alloc | apply IsS78.drewN | apply IsS78.drew | apply IsS78.set_0 | apply IsS78.set_1 | apply IsS78.set_2) | exact HI0.out)); (case side2 => repeat (first | (with_reducible first | exact HB.out | apply below_alloc | apply pw_below_drewN | apply below_drew1 | refine below_set ?_ (IsS78.ge HI0.out)) | exact HB.out)); (case side99 => exact HG.out); rintro e w12 ⟨rfl, hi, hb, hk⟩; have n0_ := Aside0.mk (KeepBut.trans (by repeat (first | (with_reducible first | exact HK.out | apply KeepBut.set_ | apply keep_drewN | apply keep_drew | apply keep_alloc) | exact HK.out)) hk (.inl rfl)); have n1_ := Aside0.mk (hb); have n2_ := Aside0.mk (hi); clear HK; clear HB; clear HI0; have HK := n0_; have HB := n1_; have HI0 := n2_; clear n0_ n1_ n2_; (try clear hb); (try clear hb2); (try clear hk); (try clear hi); have p9 : 0 ≤ (a2 : Int) := of_decide_eq_true (by first | (with_reducible assumption) | assumption); have q9 : a2 < (a1.size : Int) := of_decide_eq_true (by first | (with_reducible assumption) | assumption); have hx9 := bt_at a1 a2; replace p9 := eq_true p9; replace q9 := eq_true q9)); try go_wp2_with (first | (go_at_call 60; (with_reducible refine (codec_Reader_Null.calls k g s0_0 s0_1 s0_2 t352 t353 t354 w0 _ ?side99  ?side1 ?side2 A6.out).mono ?_); (case side1 => repeat (first | (with_reducible first | exact HI0.out | apply IsS78.alloc | apply IsS78.drewN | apply IsS78.drew | apply IsS78.set_0 | apply IsS78.set_1 | apply IsS78.set_2) | exact HI0.out)); (case side2 => repeat (first | (with_reducible first | exact HB.out | apply below_alloc | apply pw_below_drewN | apply below_drew1 | refine below_set ?_ (IsS78.ge HI0.out)) | exact HB.out)); (case side99 => exact HG.out); rintro e w12 ⟨rfl, hi, hb, hk⟩; have n0_ := Aside0.mk (KeepBut.trans (by repeat (first | (with_reducible first | exact HK.out | apply KeepBut.set_ | apply keep_drewN | apply keep_drew | apply keep_alloc) | exact HK.out)) hk (.inl rfl)); have n1_ := Aside0.mk (hb); have n2_ := Aside0.mk (hi); clear HK; clear HB; clear HI0; have HK := n0_; have HB := n1_; have HI0 := n2_; clear n0_ n1_ n2_; (try clear hb); (try clear hb2); (try clear hk); (try clear hi); have p9 : 0 ≤ (a2 : Int) := of_decide_eq_true (by first | (with_reducible assumption) | assumption); have q9 : a2 < (a1.size : Int) := of_decide_eq_true (by first | (with_reducible assumption) | assumption); have hx9 := bt_at a1 a2; replace p9 := eq_true p9; replace q9 := eq_true q9)))
          go_ret3
          exact ⟨by first | rfl | (simp [errW_none, errW_some] <;> rfl) | (simp [*, errW_none, errW_some] <;> rfl), by repeat (first | (with_reducible first | exact HI0.out | apply IsS78.alloc | apply IsS78.drewN | apply IsS78.drew | apply IsS78.set_0 | apply IsS78.set_1 | apply IsS78.set_2) | exact HI0.out), by repeat (first | (with_reducible first | exact HB.out | apply below_alloc | apply pw_below_drewN | apply below_drew1 | refine below_set ?_ (IsS78.ge HI0.out)) | exact HB.out), by repeat (first | (with_reducible first | exact HK.out | apply KeepBut.set_ | apply keep_drewN | apply keep_drew | apply keep_alloc) | exact HK.out)⟩
      · rw [if_neg c8] at H
        exact absurd H (by simp)
    · rw [if_neg c7] at H
      have c7b0 : decide (a2 < (a1.size : Int)) = false := decide_eq_false c7
      clear c7
      simp only [Option.some.injEq, Prod.mk.injEq] at H
      obtain ⟨rfl, rfl, rfl, rfl, rfl, rfl⟩ := H
      go_enter Tryd.func31, Tryd.ntmps31
      go_wp2_with (first | (go_at_call 60; (with_reducible refine (codec_Reader_Null.calls k g s0_0 s0_1 s0_2 t352 t353 t354 w0 _ ?side99  ?side1 ?side2 A6.out).mono ?_); (case side1 => repeat (first | (with_reducible first | exact HI0.out | apply IsS78.alloc | apply IsS78.drewN | apply IsS78.drew | apply IsS78.set_0 | apply IsS78.set_1 | apply IsS78.set_2) | exact HI0.out)); (case side2 => repeat (first | (with_reducible first | exact HB.out | apply below_alloc | apply pw_below_drewN | apply below_drew1 | refine below_set ?_ (IsS78.ge HI0.out)) | exact HB.out)); (case side99 => exact HG.out); rintro e w13 ⟨rfl, hi, hb, hk⟩; have n0_ := Aside0.mk (KeepBut.trans (by repeat (first | (with_reducible first | exact HK.out | apply KeepBut.set_ | apply keep_drewN | apply keep_drew | apply keep_alloc) | exact HK.out)) hk (.inl rfl)); have n1_ := Aside0.mk (hb); have n2_ := Aside0.mk (hi); clear HK; clear HB; clear HI0; have HK := n0_; have HB := n1_; have HI0 := n2_; clear n0_ n1_ n2_; (try clear hb); (try clear hb2); (try clear hk); (try clear hi)))
      repeat (go_quiet (first | (go_at_call 60; (with_reducible refine (codec_Reader_Null.calls k g s0_0 s0_1 s0_2 t352 t353 t354 w0 _ ?side99  ?side1 ?side2 A6.out).mono ?_); (case side1 => repeat (first | (with_reducible first | exact HI0.out | apply IsS78.alloc | apply IsS78.drewN | apply IsS78.drew | apply IsS78.set_0 | apply IsS78.set_1 | apply IsS78.set_2) | exact HI0.out)); (case side2 => repeat (first | (with_reducible first | exact HB.out | apply below_alloc | apply pw_below_drewN | apply below_drew1 | refine below_set ?_ (IsS78.ge HI0.out)) | exact HB.out)); (case side99 => exact HG.out); rintro e w13 ⟨rfl, hi, hb, hk⟩; have n0_ := Aside0.mk (KeepBut.trans (by repeat (first | (with_reducible first | exact HK.out | apply KeepBut.set_ | apply keep_drewN | apply keep_drew | apply keep_alloc) | exact HK.out)) hk (.inl rfl)); have n1_ := Aside0.mk (hb); have n2_ := Aside0.mk (hi); clear HK; clear HB; clear HI0; have HK := n0_; have HB := n1_; have HI0 := n2_; clear n0_ n1_ n2_; (try clear hb); (try clear hb2); (try clear hk); (try clear hi))); try go_wp2_with (first | (go_at_call 60; (with_reducible refine (codec_Reader_Null.calls k g s0_0 s0_1 s0_2 t352 t353 t354 w0 _ ?side99  ?side1 ?side2 A6.out).mono ?_); (case side1 => repeat (first | (with_reducible first | exact HI0.out | apply IsS78.alloc | apply IsS78.drewN | apply IsS78.drew | apply IsS78.set_0 | apply IsS78.set_1 | apply IsS78.set_2) | exact HI0.out)); (case side2 => repeat (first | (with_reducible first | exact HB.out | apply below_alloc | apply pw_below_drewN | apply below_drew1 | refine below_set ?_ (IsS78.ge HI0.out)) | exact HB.out)); (case side99 => exact HG.out); rintro e w13 ⟨rfl, hi, hb, hk⟩; have n0_ := Aside0.mk (KeepBut.trans (by repeat (first | (with_reducible first | exact HK.out | apply KeepBut.set_ | apply keep_drewN | apply keep_drew | apply keep_alloc) | exact HK.out)) hk (.inl rfl)); have n1_ := Aside0.mk (hb); have n2_ := Aside0.mk (hi); clear HK; clear HB; clear HI0; have HK := n0_; have HB := n1_; have HI0 := n2_; clear n0_ n1_ n2_; (try clear hb); (try clear hb2); (try clear hk); (try clear hi))))
      go_ret3
      exact ⟨by first | rfl | (simp [errW_none, errW_some] <;> rfl) | (simp [*, errW_none, errW_some] <;> rfl), by repeat (first | (with_reducible first | exact HI0.out | apply IsS78.alloc | apply IsS78.drewN | apply IsS78.drew | apply IsS78.set_0 | apply IsS78.set_1 | apply IsS78.set_2) | exact HI0.out), by repeat (first | (with_reducible first | exact HB.out | apply below_alloc | apply pw_below_drewN | apply below_drew1 | refine below_set ?_ (IsS78.ge HI0.out)) | exact HB.out), by repeat (first | (with_reducible first | exact HK.out | apply KeepBut.set_ | apply keep_drewN | apply keep_drew | apply keep_alloc) | exact HK.out)⟩
  · rw [if_neg c5] at H
    have c5b0 : (a3 == 1) = false := beq_eq_false_iff_ne.mpr c5
    have c5b1 : (a3 != 1) = true := bne_iff_ne.mpr c5
    by_cases c14 : a3 = 2
    · rw [if_pos c14] at H
      have c14b0 : (a3 == 2) = true := beq_iff_eq.mpr c14
      have c14b1 : (a3 != 2) = false := bne_eq_false_iff_eq.mpr c14
      clear c14
      replace H := Option.bind_eq_some_iff.mp H
      obtain ⟨⟨t355, t356, t357, t358⟩, A150, H⟩ := H
      replace H : (if a2 < (a1.size : Int) then (if 0 ≤ a2 then (if (bt a1 a2) = 1 then (some (wrap64 (a2 + 1), true, (t355 == ((bt a1 a2) == 2)), t356, t357, t358)) else (if (bt a1 a2) = 2 then (some (wrap64 (a2 + 1), ((bt a1 a2) == 2), (t355 == ((bt a1 a2) == 2)), t356, t357, t358)) else (some (a2, ((bt a1 a2) == 2), (t355 == false), t356, t357, t358)))) else (none)) else (some (a2, false, (t355 == false), t356, t357, t358))) = some (r1, r2, r3, r4, r5, r6) := H
      have A15 := Aside0.mk A150
      clear A150
      by_cases c16 : a2 < (a1.size : Int)
      · rw [if_pos c16] at H
        have c16b0 : decide (a2 < (a1.size : Int)) = true := decide_eq_true c16
        clear c16
        by_cases c17 : 0 ≤ a2
        · rw [if_pos c17] at H
          have c17b0 : decide (0 ≤ a2) = true := decide_eq_true c17
          clear c17
          by_cases c19 : (bt a1 a2) = 1
          · rw [if_pos c19] at H
            have c19b0 : ((bt a1 a2) == 1) = true := beq_iff_eq.mpr c19
            have c19b1 : ((bt a1 a2) != 1) = false := bne_eq_false_iff_eq.mpr c19
            clear c19
            simp only [Option.some.injEq, Prod.mk.injEq] at H
            obtain ⟨rfl, rfl, rfl, rfl, rfl, rfl⟩ := H
            go_enter Tryd.func31, Tryd.ntmps31
            go_wp2_with (first | (go_at_call 30; (with_reducible refine (codec_Reader_Bool.calls k g s0_0 s0_1 s0_2 t355 t356 t357 t358 w0 _ ?side99  ?side1 ?side2 A15.out).mono ?_); (case side1 => repeat (first | (with_reducible first | exact HI0.out | apply IsS78.alloc | apply IsS78.drewN | apply IsS78.drew | apply IsS78.set_0 | apply IsS78.set_1 | apply IsS78.set_2) | exact HI0.out)); (case side2 => repeat (first | (with_reducible first | exact HB.out | apply below_alloc | apply pw_below_drewN | apply below_drew1 | refine below_set ?_ (IsS78.ge HI0.out)) | exact HB.out)); (case side99 => exact HG.out); rintro e w21 ⟨rfl, hi, hb, hk⟩; have n0_ := Aside0.mk (KeepBut.trans (by repeat (first | (with_reducible first | exact HK.out | apply KeepBut.set_ | apply keep_drewN | apply keep_drew | apply keep_alloc) | exact HK.out)) hk (.inl rfl)); have n1_ := Aside0.mk (hb); have n2_ := Aside0.mk (hi); clear HK; clear HB; clear HI0; have HK := n0_; have HB := n1_; have HI0 := n2_; clear n0_ n1_ n2_; (try clear hb); (try clear hb2); (try clear hk); (try clear hi); have p18 : 0 ≤ (a2 : Int) := of_decide_eq_true (by first | (with_reducible assumption) | assumption); have q18 : a2 < (a1.size : Int) := of_decide_eq_true (by first | (with_reducible assumption) | assumption); have hx18 := bt_at a1 a2; replace p18 := eq_true p18; replace q18 := eq_true q18; have p20 : 0 ≤ (a2 : Int) := of_decide_eq_true (by first | (with_reducible assumption) | assumption); have q20 : a2 < (a1.size : Int) := of_decide_eq_true (by first | (with_reducible assumption) | assumption); have hx20 := bt_at a1 a2; replace p20 := eq_true p20; replace q20 := eq_true q20))
            repeat (go_quiet (first | (go_at_call 30; (with_reducible refine (codec_Reader_Bool.calls k g s0_0 s0_1 s0_2 t355 t356 t357 t358 w0 _ ?side99  ?side1 ?side2 A15.out).mono ?_); (case side1 => repeat (first | (with_reducible first | exact HI0.out | apply IsS78.alloc | apply IsS78.drewN | apply IsS78.drew | apply IsS78.set_0 | apply IsS78.set_1 | apply IsS78.set_2) | exact HI0.out)); (case side2 => repeat (first | (with_reducible first | exact HB.out | apply below_alloc | apply pw_below_drewN | apply below_drew1 | refine below_set ?_ (IsS78.ge HI0.out)) | exact HB.out)); (case side99 => exact HG.out); rintro e w21 ⟨rfl, hi, hb, hk⟩; have n0_ := Aside0.mk (KeepBut.trans (by repeat (first | (with_reducible first | exact HK.out | apply KeepBut.set_ | apply keep_drewN | apply keep_drew | apply keep_alloc) | exact HK.out)) hk (.inl rfl)); have n1_ := Aside0.mk (hb); have n2_ := Aside0.mk (hi); clear HK; clear HB; clear HI0; have HK := n0_; have HB := n1_; have HI0 := n2_; clear n0_ n1_ n2_; (try clear hb); (try clear hb2); (try clear hk); (try clear hi); have p18 : 0 ≤ (a2 : Int) := of_decide_eq_true (by first | (with_reducible assumption) | assumption); have q18 : a2 < (a1.size : Int) := of_decide_eq_true (by first | (with_reducible assumption) | assumption); have hx18 := bt_at a1 a2; replace p18 := eq_true p18; replace q18 := eq_true q18; have p20 : 0 ≤ (a2 : Int) := of_decide_eq_true (by first | (with_reducible assumption) | assumption); have q20 : a2 < (a1.size : Int) := of_decide_eq_true (by first | (with_reducible assumption) | assumption); have hx20 := bt_at a1 a2; replace p20 := eq_true p20; replace q20 := eq_true q20)); try go_wp2_with (first | (go_at_call 30; (with_reducible refine (codec_Reader_Bool.calls k g s0_0 s0_1 s0_2 t355 t356 t357 t358 w0 _ ?side99  ?side1 ?side2 A15.out).mono ?_); (case side1 => repeat (first | (with_reducible first | exact HI0.out | apply IsS78.alloc | apply IsS78.drewN | apply IsS78.drew | apply IsS78.set_0 | apply IsS78.set_1 | apply IsS78.set_2) | exact HI0.out)); (case side2 => repeat (first | (with_reducible first | exact HB.out | apply below_alloc | apply pw_below_drewN | apply below_drew1 | refine below_set ?_ (IsS78.ge HI0.out)) | exact HB.out)); (case side99 => exact HG.out); rintro e w21 ⟨rfl, hi, hb, hk⟩; have n0_ := Aside0.mk (KeepBut.trans (by repeat (first | (with_reducible first | exact HK.out | apply KeepBut.set_ | apply keep_drewN | apply keep_drew | apply keep_alloc) | exact HK.out)) hk (.inl rfl)); have n1_ := Aside0.mk (hb); have n2_ := Aside0.mk (hi); clear HK; clear HB; clear HI0; have HK := n0_; have HB := n1_; have HI0 := n2_; clear n0_ n1_ n2_; (try clear hb); (try clear hb2); (try clear hk); (try clear hi); have p18 : 0 ≤ (a2 : Int) := of_decide_eq_true (by first | (with_reducible assumption) | assumption); have q18 : a2 < (a1.size : Int) := of_decide_eq_true (by first | (with_reducible assumption) | assumption); have hx18 := bt_at a1 a2; replace p18 := eq_true p18; replace q18 := eq_true q18; have p20 : 0 ≤ (a2 : Int) := of_decide_eq_true (by first | (with_reducible assumption) | assumption); have q20 : a2 < (a1.size : Int) := of_decide_eq_true (by first | (with_reducible assumption) | assumption); have hx20 := bt_at a1 a2; replace p20 := eq_true p20; replace q20 := eq_true q20)))
            go_ret3
            exact ⟨by first | rfl | (simp [errW_none, errW_some] <;> rfl) | (simp [*, errW_none, errW_some] <;> rfl), by repeat (first | (with_reducible first | exact HI0.out | apply IsS78.alloc | apply IsS78.drewN | apply IsS78.drew | apply IsS78.set_0 | apply IsS78.set_1 | apply IsS78.set_2) | exact HI0.out), by repeat (first | (with_reducible first | exact HB.out | apply below_alloc | apply pw_below_drewN | apply below_drew1 | refine below_set ?_ (IsS78.ge HI0.out)) | exact HB.out), by repeat (first | (with_reducible first | exact HK.out | apply KeepBut.set_ | apply keep_drewN | apply keep_drew | apply keep_alloc) | exact HK.out)⟩
          · rw [if_neg c19] at H
            have c19b0 : ((bt a1 a2) == 1) = false := beq_eq_false_iff_ne.mpr c19
            have c19b1 : ((bt a1 a2) != 1) = true := bne_iff_ne.mpr c19
            by_cases c23 : (bt a1 a2) = 2
            · rw [if_pos c23] at H
              have c23b0 : ((bt a1 a2) == 2) = true := beq_iff_eq.mpr c23
              have c23b1 : ((bt a1 a2) != 2) = false := bne_eq_false_iff_eq.mpr c23
              clear c23
              simp only [Option.some.injEq, Prod.mk.injEq] at H
              obtain ⟨rfl, rfl, rfl, rfl, rfl, rfl⟩ := H
              go_enter Tryd.func31, Tryd.ntmps31
              go_wp2_with (first | (go_at_call 30; (with_reducible refine (codec_Reader_Bool.calls k g s0_0 s0_1 s0_2 t355 t356 t357 t358 w0 _ ?side99  ?side1 ?side2 A15.out).mono ?_); (case side1 => repeat (first | (with_reducible first | exact HI0.out | apply IsS78.alloc | apply IsS78.drewN | apply IsS78.drew | apply IsS78.set_0 | apply IsS78.set_1 | apply IsS78.set_2) | exact HI0.out)); (case side2 => repeat (first | (with_reducible first | exact HB.out | apply below_alloc | apply pw_below_drewN | apply below_drew1 | refine below_set ?_ (IsS78.ge HI0.out)) | exact HB.out)); (case side99 => exact HG.out); rintro e w25 ⟨rfl, hi, hb, hk⟩; have n0_ := Aside0.mk (KeepBut.trans (by repeat (first | (with_reducible first | exact HK.out | apply KeepBut.set_ | apply keep_drewN | apply keep_drew | apply keep_alloc) | exact HK.out)) hk (.inl rfl)); have n1_ := Aside0.mk (hb); have n2_ := Aside0.mk (hi); clear HK; clear HB; clear HI0; have HK := n0_; have HB := n1_; have HI0 := n2_; clear n0_ n1_ n2_; (try clear hb); (try clear hb2); (try clear hk); (try clear hi); have p18 : 0 ≤ (a2 : Int) := of_decide_eq_true (by first | (with_reducible assumption) | assumption); have q18 : a2 < (a1.size : Int) := of_decide_eq_true (by first | (with_reducible assumption) | assumption); have hx18 := bt_at a1 a2; replace p18 := eq_true p18; replace q18 := eq_true q18; have p22 : 0 ≤ (a2 : Int) := of_decide_eq_true (by first | (with_reducible assumption) | assumption); have q22 : a2 < (a1.size : Int) := of_decide_eq_true (by first | (with_reducible assumption) | assumption); have hx22 := bt_at a1 a2; replace p22 := eq_true p22; replace q22 := eq_true q22; have p24 : 0 ≤ (a2 : Int) := of_decide_eq_true (by first | (with_reducible assumption) | assumption); have q24 : a2 < (a1.size : Int) := of_decide_eq_true (by first | (with_reducible assumption) | assumption); have hx24 := bt_at a1 a2; replace p24 := eq_true p24; replace q24 := eq_true q24))
              repeat (go_quiet (first | (go_at_call 30; (with_reducible refine (codec_Reader_Bool.calls k g s0_0 s0_1 s0_2 t355 t356 t357 t358 w0 _ ?side99  ?side1 ?side2 A15.out).mono ?_); (case side1 => repeat (first | (with_reducible first | exact HI0.out | apply IsS78.alloc | apply IsS78.drewN | apply IsS78.drew | apply IsS78.set_0 | apply IsS78.set_1 | apply IsS78.set_2) | exact HI0.out)); (case side2 => repeat (first | (with_reducible first | exact HB.out | apply below_alloc | apply pw_below_drewN | apply below_drew1 | refine below_set ?_ (IsS78.ge HI0.out)) | exact HB.out)); (case side99 => exact HG.out); rintro e w25 ⟨rfl, hi, hb, hk⟩; have n0_ := Aside0.mk (KeepBut.trans (by repeat (first | (with_reducible first | exact HK.out | apply KeepBut.set_ | apply keep_drewN | apply keep_drew | apply keep_alloc) | exact HK.out)) hk (.inl rfl)); have n1_ := Aside0.mk (hb); have n2_ := Aside0.mk (hi); clear HK; clear HB; clear HI0; have HK := n0_; have HB := n1_; have HI0 := n2_; clear n0_ n1_ n2_; (try clear hb); (try clear hb2); (try clear hk); (try clear hi); have p18 : 0 ≤ (a2 : Int) := of_decide_eq_true (by first | (with_reducible assumption) | assumption); have q18 : a2 < (a1.size : Int) := of_decide_eq_true (by first | (with_reducible assumption) | assumption); have hx18 := bt_at a1 a2; replace p18 := eq_true p18; replace q18 := eq_true q18; have p22 : 0 ≤ (a2 : Int) := of_decide_eq_true (by first | (with_reducible assumption) | assumption); have q22 : a2 < (a1.size : Int) := of_decide_eq_true (by first | (with_reducible assumption) | assumption); have hx22 := bt_at a1 a2; replace p22 := eq_true p22; replace q22 := eq_true q22; have p24 : 0 ≤ (a2 : Int) := of_decide_eq_true (by first | (with_reducible assumption) | assumption); have q24 : a2 < (a1.size : Int) := of_decide_eq_true (by first | (with_reducible assumption) | assumption); have hx24 := bt_at a1 a2; replace p24 := eq_true p24; replace q24 := eq_true q24)); try go_wp2_with (first | (go_at_call 30; (with_reducible refine (codec_Reader_Bool.calls k g s0_0 s0_1 s0_2 t355 t356 t357 t358 w0 _ ?side99  ?side1 ?side2 A15.out).mono ?_); (case side1 => repeat (first | (with_reducible first | exact HI0.out | apply IsS78.alloc | apply IsS78.drewN | apply IsS78.drew | apply IsS78.set_0 | apply IsS78.set_1 | apply IsS78.set_2) | exact HI0.out)); (case side2 => repeat (first | (with_reducible first | exact HB.out | apply below_alloc | apply pw_below_drewN | apply below_drew1 | refine below_set ?_ (IsS78.ge HI0.out)) | exact HB.out)); (case side99 => exact HG.out); rintro e w25 ⟨rfl, hi, hb, hk⟩; have n0_ := Aside0.mk (KeepBut.trans (by repeat (first | (with_reducible first | exact HK.out | apply KeepBut.set_ | apply keep_drewN | apply keep_drew | apply keep_alloc) | exact HK.out)) hk (.inl rfl)); have n1_ := Aside0.mk (hb); have n2_ := Aside0.mk (hi); clear HK; clear HB; clear HI0; have HK := n0_; have HB := n1_; have HI0 := n2_; clear n0_ n1_ n2_; (try clear hb); (try clear hb2); (try clear hk); (try clear hi); have p18 : 0 ≤ (a2 : Int) := of_decide_eq_true (by first | (with_reducible assumption) | assumption); have q18 : a2 < (a1.size : Int) := of_decide_eq_true (by first | (with_reducible assumption) | assumption); have hx18 := bt_at a1 a2; replace p18 := eq_true p18; replace q18 := eq_true q18; have p22 : 0 ≤ (a2 : Int) := of_decide_eq_true (by first | (with_reducible assumption) | assumption); have q22 : a2 < (a1.size : Int) := of_decide_eq_true (by first | (with_reducible assumption) | assumption); have hx22 := bt_at a1 a2; replace p22 := eq_true p22; replace q22 := eq_true q22; have p24 : 0 ≤ (a2 : Int) := of_decide_eq_true (by first | (with_reducible assumption) | assumption); have q24 : a2 < (a1.size : Int) := of_decide_eq_true (by first | (with_reducible assumption) | assumption); have hx24 := bt_at a1 a2; replace p24 := eq_true p24; replace q24 := eq_true q24)))
              go_ret3
              exact ⟨by first | rfl | (simp [errW_none, errW_some] <;> rfl) | (simp [*, errW_none, errW_some] <;> rfl), by repeat (first | (with_reducible first | exact HI0.out | apply IsS78.alloc | apply IsS78.drewN | apply IsS78.drew | apply IsS78.set_0 | apply IsS78.set_1 | apply IsS78.set_2) | exact HI0.out), by repeat (first | (with_reducible first | exact HB.out | apply below_alloc | apply pw_below_drewN | apply below_drew1 | refine below_set ?_ (IsS78.ge HI0.out)) | exact HB.out), by repeat (first | (with_reducible first | exact HK.out | apply KeepBut.set_ | apply keep_drewN | apply keep_drew | apply keep_alloc) | exact HK.out)⟩
            · rw [if_neg c23] at H
              have c23b0 : ((bt a1 a2) == 2) = false := beq_eq_false_iff_ne.mpr c23
              have c23b1 : ((bt a1 a2) != 2) = true := bne_iff_ne.mpr c23
              simp only [Option.some.injEq, Prod.mk.injEq] at H
              obtain ⟨rfl, rfl, rfl, rfl, rfl, rfl⟩ := H
              go_enter Tryd.func31, Tryd.ntmps31
              go_wp2_with (first | (go_at_call 30; (with_reducible refine (codec_Reader_Bool.calls k g s0_0 s0_1 s0_2 t355 t356 t357 t358 w0 _ ?side99  ?side1 ?side2 A15.out).mono ?_); (case side1 => repeat (first | (with_reducible first | exact HI0.out | apply IsS78.alloc | apply IsS78.drewN | apply IsS78.drew | apply IsS78.set_0 | apply IsS78.set_1 | apply IsS78.set_2) | exact HI0.out)); (case side2 => repeat (first | (with_reducible first | exact HB.out | apply below_alloc | apply pw_below_drewN | apply below_drew1 | refine below_set ?_ (IsS78.ge HI0.out)) | exact HB.out)); (case side99 => exact HG.out); rintro e w26 ⟨rfl, hi, hb, hk⟩; have n0_ := Aside0.mk (KeepBut.trans (by repeat (first | (with_reducible first | exact HK.out | apply KeepBut.set_ | apply keep_drewN | apply keep_drew | apply keep_alloc) | exact HK.out)) hk (.inl rfl)); have n1_ := Aside0.mk (hb); have n2_ := Aside0.mk (hi); clear HK; clear HB; clear HI0; have HK := n0_; have HB := n1_; have HI0 := n2_; clear n0_ n1_ n2_; (try clear hb); (try clear hb2); (try clear hk); (try clear hi); have p18 : 0 ≤ (a2 : Int) := of_decide_eq_true (by first | (with_reducible assumption) | assumption); have q18 : a2 < (a1.size : Int) := of_decide_eq_true (by first | (with_reducible assumption) | assumption); have hx18 := bt_at a1 a2; replace p18 := eq_true p18; replace q18 := eq_true q18; have p22 : 0 ≤ (a2 : Int) := of_decide_eq_true (by first | (with_reducible assumption) | assumption); have q22 : a2 < (a1.size : Int) := of_decide_eq_true (by first | (with_reducible assumption) | assumption); have hx22 := bt_at a1 a2; replace p22 := eq_true p22; replace q22 := eq_true q22))
              repeat (go_quiet (first | (go_at_call 30; (with_reducible refine (codec_Reader_Bool.calls k g s0_0 s0_1 s0_2 t355 t356 t357 t358 w0 _ ?side99  ?side1 ?side2 A15.out).mono ?_); (case side1 => repeat (first | (with_reducible first | exact HI0.out | apply IsS78.alloc | apply IsS78.drewN | apply IsS78.drew | apply IsS78.set_0 | apply IsS78.set_1 | apply IsS78.set_2) | exact HI0.out)); (case side2 => repeat (first | (with_reducible first | exact HB.out | apply below_alloc | apply pw_below_drewN | apply below_drew1 | refine below_set ?_ (IsS78.ge HI0.out)) | exact HB.out)); (case side99 => exact HG.out); rintro e w26 ⟨rfl, hi, hb, hk⟩; have n0_ := Aside0.mk (KeepBut.trans (by repeat (first | (with_reducible first | exact HK.out | apply KeepBut.set_ | apply keep_drewN | apply keep_drew | apply keep_alloc) | exact HK.out)) hk (.inl rfl)); have n1_ := Aside0.mk (hb); have n2_ := Aside0.mk (hi); clear HK; clear HB; clear HI0; have HK := n0_; have HB := n1_; have HI0 := n2_; clear n0_ n1_ n2_; (try clear hb); (try clear hb2); (try clear hk); (try clear hi); have p18 : 0 ≤ (a2 : Int) := of_decide_eq_true (by first | (with_reducible assumption) | assumption); have q18 : a2 < (a1.size : Int) := of_decide_eq_true (by first | (with_reducible assumption) | assumption); have hx18 := bt_at a1 a2; replace p18 := eq_true p18; replace q18 := eq_true q18; have p22 : 0 ≤ (a2 : Int) := of_decide_eq_true (by first | (with_reducible assumption) | assumption); have q22 : a2 < (a1.size : Int) := of_decide_eq_true (by first | (with_reducible assumption) | assumption); have hx22 := bt_at a1 a2; replace p22 := eq_true p22; replace q22 := eq_true q22)); try go_wp2_with (first | (go_at_call 30; (with_reducible refine (codec_Reader_Bool.calls k g s0_0 s0_1 s0_2 t355 t356 t357 t358 w0 _ ?side99  ?side1 ?side2 A15.out).mono ?_); (case side1 => repeat (first | (with_reducible first | exact HI0.out | apply IsS78.alloc | apply IsS78.drewN | apply IsS78.drew | apply IsS78.set_0 | apply IsS78.set_1 | apply IsS78.set_2) | exact HI0.out)); (case side2 => repeat (first | (with_reducible first | exact HB.out | apply below_alloc | apply pw_below_drewN | apply below_drew1 | refine below_set ?_ (IsS78.ge HI0.out)) | exact HB.out)); (case side99 => exact HG.out); rintro e w26 ⟨rfl, hi, hb, hk⟩; have n0_ := Aside0.mk (KeepBut.trans (by repeat (first | (with_reducible first | exact HK.out | apply KeepBut.set_ | apply keep_drewN | apply keep_drew | apply keep_alloc) | exact HK.out)) hk (.inl rfl)); have n1_ := Aside0.mk (hb); have n2_ := Aside0.mk (hi); clear HK; clear HB; clear HI0; have HK := n0_; have HB := n1_; have HI0 := n2_; clear n0_ n1_ n2_; (try clear hb); (try clear hb2); (try clear hk); (try clear hi); have p18 : 0 ≤ (a2 : Int) := of_decide_eq_true (by first | (with_reducible assumption) | assumption); have q18 : a2 < (a1.size : Int) := of_decide_eq_true (by first | (with_reducible assumption) | assumption); have hx18 := bt_at a1 a2; replace p18 := eq_true p18; replace q18 := eq_true q18; have p22 : 0 ≤ (a2 : Int) := of_decide_eq_true (by first | (with_reducible assumption) | assumption); have q22 : a2 < (a1.size : Int) := of_decide_eq_true (by first | (with_reducible assumption) | assumption); have hx22 := bt_at a1 a2; replace p22 := eq_true p22; replace q22 := eq_true q22)))
              go_ret3
              exact ⟨by first | rfl | (simp [errW_none, errW_some] <;> rfl) | (simp [*, errW_none, errW_some] <;> rfl), by repeat (first | (with_reducible first | exact HI0.out | apply IsS78.alloc | apply IsS78.drewN | apply IsS78.drew | apply IsS78.set_0 | apply IsS78.set_1 | apply IsS78.set_2) | exact HI0.out), by repeat (first | (with_reducible first | exact HB.out | apply below_alloc | apply pw_below_drewN | apply below_drew1 | refine below_set ?_ (IsS78.ge HI0.out)) | exact HB.out), by repeat (first | (with_reducible first | exact HK.out | apply KeepBut.set_ | apply keep_drewN | apply keep_drew | apply keep_alloc) | exact HK.out)⟩
        · rw [if_neg c17] at H
          exact absurd H (by simp)
      · rw [if_neg c16] at H
        have c16b0 : decide (a2 < (a1.size : Int)) = false := decide_eq_false c16
        clear c16
        simp only [Option.some.injEq, Prod.mk.injEq] at H
        obtain ⟨rfl, rfl, rfl, rfl, rfl, rfl⟩ := H
        go_enter Tryd.func31, Tryd.ntmps31
        go_wp2_with (first | (go_at_call 30; (with_reducible refine (codec_Reader_Bool.calls k g s0_0 s0_1 s0_2 t355 t356 t357 t358 w0 _ ?side99  ?side1 ?side2 A15.out).mono ?_); (case side1 => repeat (first | (with_reducible first | exact HI0.out | apply IsS78.alloc | apply IsS78.drewN | apply IsS78.drew | apply IsS78.set_0 | apply IsS78.set_1 | apply IsS78.set_2) | exact HI0.out)); (case side2 => repeat (first | (with_reducible first | exact HB.out | apply below_alloc | apply pw_below_drewN | apply below_drew1 | refine below_set ?_ (IsS78.ge HI0.out)) | exact HB.out)); (case side99 => exact HG.out); rintro e w27 ⟨rfl, hi, hb, hk⟩; have n0_ := Aside0.mk (KeepBut.trans (by repeat (first | (with_reducible first | exact HK.out | apply KeepBut.set_ | apply keep_drewN | apply keep_drew | apply keep_alloc) | exact HK.out)) hk (.inl rfl)); have n1_ := Aside0.mk (hb); have n2_ := Aside0.mk (hi); clear HK; clear HB; clear HI0; have HK := n0_; have HB := n1_; have HI0 := n2_; clear n0_ n1_ n2_; (try clear hb); (try clear hb2); (try clear hk); (try clear hi)))
        repeat (go_quiet (first | (go_at_call 30; (with_reducible refine (codec_Reader_Bool.calls k g s0_0 s0_1 s0_2 t355 t356 t357 t358 w0 _ ?side99  ?side1 ?side2 A15.out).mono ?_); (case side1 => repeat (first | (with_reducible first | exact HI0.out | apply IsS78.alloc | apply IsS78.drewN | apply IsS78.drew | apply IsS78.set_0 | apply IsS78.set_1 | apply IsS78.set_2) | exact HI0.out)); (case side2 => repeat (first | (with_reducible first | exact HB.out | apply below_alloc | apply pw_below_drewN | apply below_drew1 | refine below_set ?_ (IsS78.ge HI0.out)) | exact HB.out)); (case side99 => exact HG.out); rintro e w27 ⟨rfl, hi, hb, hk⟩; have n0_ := Aside0.mk (KeepBut.trans (by repeat (first | (with_reducible first | exact HK.out | apply KeepBut.set_ | apply keep_drewN | apply keep_drew | apply keep_alloc) | exact HK.out)) hk (.inl rfl)); have n1_ := Aside0.mk (hb); have n2_ := Aside0.mk (hi); clear HK; clear HB; clear HI0; have HK := n0_; have HB := n1_; have HI0 := n2_; clear n0_ n1_ n2_; (try clear hb); (try clear hb2); (try clear hk); (try clear hi))); try go_wp2_with (first | (go_at_call 30; (with_reducible refine (codec_Reader_Bool.calls k g s0_0 s0_1 s0_2 t355 t356 t357 t358 w0 _ ?side99  ?side1 ?side2 A15.out).mono ?_); (case side1 => repeat (first | (with_reducible first | exact HI0.out | apply IsS78.alloc | apply IsS78.drewN | apply IsS78.drew | apply IsS78.set_0 | apply IsS78.set_1 | apply IsS78.set_2) | exact HI0.out)); (case side2 => repeat (first | (with_reducible first | exact HB.out | apply below_alloc | apply pw_below_drewN | apply below_drew1 | refine below_set ?_ (IsS78.ge HI0.out)) | exact HB.out)); (case side99 => exact HG.out); rintro e w27 ⟨rfl, hi, hb, hk⟩; have n0_ := Aside0.mk (KeepBut.trans (by repeat (first | (with_reducible first | exact HK.out | apply KeepBut.set_ | apply keep_drewN | apply keep_drew | apply keep_alloc) | exact HK.out)) hk (.inl rfl)); have n1_ := Aside0.mk (hb); have n2_ := Aside0.mk (hi); clear HK; clear HB; clear HI0; have HK := n0_; have HB := n1_; have HI0 := n2_; clear n0_ n1_ n2_; (try clear hb); (try clear hb2); (try clear hk); (try clear hi))))
        go_ret3
        exact ⟨by first | rfl | (simp [errW_none, errW_some] <;> rfl) | (simp [*, errW_none, errW_some] <;> rfl), by repeat (first | (with_reducible first | exact HI0.out | apply IsS78.alloc | apply IsS78.drewN | apply IsS78.drew | apply IsS78.set_0 | apply IsS78.set_1 | apply IsS78.set_2) | exact HI0.out), by repeat (first | (with_reducible first | exact HB.out | apply below_alloc | apply pw_below_drewN | apply below_drew1 | refine below_set ?_ (IsS78.ge HI0.out)) | exact HB.out), by repeat (first | (with_reducible first | exact HK.out | apply KeepBut.set_ | apply keep_drewN | apply keep_drew | apply keep_alloc) | exact HK.out)⟩
    · rw [if_neg c14] at H
      have c14b0 : (a3 == 2) = false := beq_eq_false_iff_ne.mpr c14
      have c14b1 : (a3 != 2) = true := bne_iff_ne.mpr c14
      by_cases c28 : a3 = 3
      · rw [if_pos c28] at H
        have c28b0 : (a3 == 3) = true := beq_iff_eq.mpr c28
        have c28b1 : (a3 != 3) = false := bne_eq_false_iff_eq.mpr c28
        clear c28
        replace H := Option.bind_eq_some_iff.mp H
        obtain ⟨⟨t359, t360, t361⟩, A290, H⟩ := H
        replace H : ((codec_Reader_Unsigned.f k s0_0 s0_1 s0_2).bind fun bt362 => (if t361 = true then (some (t360, t361, (bt362.1 == t359), bt362.2.1, bt362.2.2.1, bt362.2.2.2)) else (some (a2, t361, (bt362.1 == t359), bt362.2.1, bt362.2.2.1, bt362.2.2.2)))) = some (r1, r2, r3, r4, r5, r6) := H
        have A29 := Aside0.mk A290
        clear A290
        replace H := Option.bind_eq_some_iff.mp H
        obtain ⟨⟨t362, t363, t364, t365⟩, A300, H⟩ := H
        replace H : (if t361 = true then (some (t360, t361, (t362 == t359), t363, t364, t365)) else (some (a2, t361, (t362 == t359), t363, t364, t365))) = some (r1, r2, r3, r4, r5, r6) := H
        have A30 := Aside0.mk A300
        clear A300
        by_cases c31 : t361 = true
        · subst c31
          have H1 : (some (t360, true, (t362 == t359), t363, t364, t365)) = some (r1, r2, r3, r4, r5, r6) := by rw [if_pos rfl] at H; exact H
          clear H
          have H := H1
          clear H1
          simp only [Option.some.injEq, Prod.mk.injEq] at H
          obtain ⟨rfl, rfl, rfl, rfl, rfl, rfl⟩ := H
          go_enter Tryd.func31, Tryd.ntmps31
          go_wp2_with (first | (go_at_call 37; (with_reducible refine (plenumref02_ReadUnsigned.calls k a1 a2 t359 t360 true _ ?side99  A29.out).mono ?_); (case side99 => first | exact HG.out | exact Glob.below HG.out (by repeat (first | (with_reducible first | exact HB.out | apply below_alloc | apply pw_below_drewN | apply below_drew1 | refine below_set ?_ (IsS78.ge HI0.out)) | exact HB.out))); rintro e w32 ⟨rfl, hb⟩; have n0_ := Aside0.mk (IsS78.below (by repeat (first | (with_reducible first | exact HI0.out | apply IsS78.alloc | apply IsS78.drewN | apply IsS78.drew | apply IsS78.set_0 | apply IsS78.set_1 | apply IsS78.set_2) | exact HI0.out)) hb); have n1_ := Aside0.mk (KeepBut.trans (by repeat (first | (with_reducible first | exact HK.out | apply KeepBut.set_ | apply keep_drewN | apply keep_drew | apply keep_alloc) | exact HK.out)) (KeepBut.of_below hb g none) (.inl rfl)); have n2_ := Aside0.mk (below_step (by repeat (first | (with_reducible first | exact HB.out | apply below_alloc | apply pw_below_drewN | apply below_drew1 | refine below_set ?_ (IsS78.ge HI0.out)) | exact HB.out)) hb); clear HI0; clear HK; clear HB; have HI0 := n0_; have HK := n1_; have HB := n2_; clear n0_ n1_ n2_; (try clear hb); (try clear hb2); (try clear hk); (try clear hi)) | (go_at_call 26; (with_reducible refine (codec_Reader_Unsigned.calls k g s0_0 s0_1 s0_2 t362 t363 t364 t365 w0 _ ?side99  ?side1 ?side2 A30.out).mono ?_); (case side1 => repeat (first | (with_reducible first | exact HI0.out | apply IsS78.alloc | apply IsS78.drewN | apply IsS78.drew | apply IsS78.set_0 | apply IsS78.set_1 | apply IsS78.set_2) | exact HI0.out)); (case side2 => repeat (first | (with_reducible first | exact HB.out | apply below_alloc | apply pw_below_drewN | apply below_drew1 | refine below_set ?_ (IsS78.ge HI0.out)) | exact HB.out)); (case side99 => exact HG.out); rintro e w33 ⟨rfl, hi, hb, hk⟩; have n0_ := Aside0.mk (KeepBut.trans (by repeat (first | (with_reducible first | exact HK.out | apply KeepBut.set_ | apply keep_drewN | apply keep_drew | apply keep_alloc) | exact HK.out)) hk (.inl rfl)); have n1_ := Aside0.mk (hb); have n2_ := Aside0.mk (hi); clear HK; clear HB; clear HI0; have HK := n0_; have HB := n1_; have HI0 := n2_; clear n0_ n1_ n2_; (try clear hb); (try clear hb2); (try clear hk); (try clear hi)))
          repeat (go_quiet (first | (go_at_call 37; (with_reducible refine (plenumref02_ReadUnsigned.calls k a1 a2 t359 t360 true _ ?side99  A29.out).mono ?_); (case side99 => first | exact HG.out | exact Glob.below HG.out (by repeat (first | (with_reducible first | exact HB.out | apply below_alloc | apply pw_below_drewN | apply below_drew1 | refine below_set ?_ (IsS78.ge HI0.out)) | exact HB.out))); rintro e w32 ⟨rfl, hb⟩; have n0_ := Aside0.mk (IsS78.below (by repeat (first | (with_reducible first | exact HI0.out | apply IsS78.alloc | apply IsS78.drewN | apply IsS78.drew | apply IsS78.set_0 | apply IsS78.set_1 | apply IsS78.set_2) | exact HI0.out)) hb); have n1_ := Aside0.mk (KeepBut.trans (by repeat (first | (with_reducible first | exact HK.out | apply KeepBut.set_ | apply keep_drewN | apply keep_drew | apply keep_alloc) | exact HK.out)) (KeepBut.of_below hb g none) (.inl rfl)); have n2_ := Aside0.mk (below_step (by repeat (first | (with_reducible first | exact HB.out | apply below_alloc | apply pw_below_drewN | apply below_drew1 | refine below_set ?_ (IsS78.ge HI0.out)) | exact HB.out)) hb); clear HI0; clear HK; clear HB; have HI0 := n0_; have HK := n1_; have HB := n2_; clear n0_ n1_ n2_; (try clear hb); (try clear hb2); (try clear hk); (try clear hi)) | (go_at_call 26; (with_reducible refine (codec_Reader_Unsigned.calls k g s0_0 s0_1 s0_2 t362 t363 t364 t365 w0 _ ?side99  ?side1 ?side2 A30.out).mono ?_); (case side1 => repeat (first | (with_reducible first | exact HI0.out | apply IsS78.alloc | apply IsS78.drewN | apply IsS78.drew | apply IsS78.set_0 | apply IsS78.set_1 | apply IsS78.set_2) | exact HI0.out)); (case side2 => repeat (first | (with_reducible first | exact HB.out | apply below_alloc | apply pw_below_drewN | apply below_drew1 | refine below_set ?_ (IsS78.ge HI0.out)) | exact HB.out)); (case side99 => exact HG.out); rintro e w33 ⟨rfl, hi, hb, hk⟩; have n0_ := Aside0.mk (KeepBut.trans (by repeat (first | (with_reducible first | exact HK.out | apply KeepBut.set_ | apply keep_drewN | apply keep_drew | apply keep_alloc) | exact HK.out)) hk (.inl rfl)); have n1_ := Aside0.mk (hb); have n2_ := Aside0.mk (hi); clear HK; clear HB; clear HI0; have HK := n0_; have HB := n1_; have HI0 := n2_; clear n0_ n1_ n2_; (try clear hb); (try clear hb2); (try clear hk); (try clear hi))); try go_wp2_with (first | (go_at_call 37; (with_reducible refine (plenumref02_ReadUnsigned.calls k a1 a2 t359 t360 true _ ?side99  A29.out).mono ?_); (case side99 => first | exact HG.out | exact Glob.below HG.out (by repeat (first | (with_reducible first | exact HB.out | apply below_alloc | apply pw_below_drewN | apply below_drew1 | refine below_set ?_ (IsS78.ge HI0.out)) | exact HB.out))); rintro e w32 ⟨rfl, hb⟩; have n0_ := Aside0.mk (IsS78.below (by repeat (first | (with_reducible first | exact HI0.out | apply IsS78.alloc | apply IsS78.drewN | apply IsS78.drew | apply IsS78.set_0 | apply IsS78.set_1 | apply IsS78.set_2) | exact HI0.out)) hb); have n1_ := Aside0.mk (KeepBut.trans (by repeat (first | (with_reducible first | exact HK.out | apply KeepBut.set_ | apply keep_drewN | apply keep_drew | apply keep_alloc) | exact HK.out)) (KeepBut.of_below hb g none) (.inl rfl)); have n2_ := Aside0.mk (below_step (by repeat (first | (with_reducible first | exact HB.out | apply below_alloc | apply pw_below_drewN | apply below_drew1 | refine below_set ?_ (IsS78.ge HI0.out)) | exact HB.out)) hb); clear HI0; clear HK; clear HB; have HI0 := n0_; have HK := n1_; have HB := n2_; clear n0_ n1_ n2_; (try clear hb); (try clear hb2); (try clear hk); (try clear hi)) | (go_at_call 26; (with_reducible refine (codec_Reader_Unsigned.calls k g s0_0 s0_1 s0_2 t362 t363 t364 t365 w0 _ ?side99  ?side1 ?side2 A30.out).mono ?_); (case side1 => repeat (first | (with_reducible first | exact HI0.out | apply IsS78.alloc | apply IsS78.drewN | apply IsS78.drew | apply IsS78.set_0 | apply IsS78.set_1 | apply IsS78.set_2) | exact HI0.out)); (case side2 => repeat (first | (with_reducible first | exact HB.out | apply below_alloc | apply pw_below_drewN | apply below_drew1 | refine below_set ?_ (IsS78.ge HI0.out)) | exact HB.out)); (case side99 => exact HG.out); rintro e w33 ⟨rfl, hi, hb, hk⟩; have n0_ := Aside0.mk (KeepBut.trans (by repeat (first | (with_reducible first | exact HK.out | apply KeepBut.set_ | apply keep_drewN | apply keep_drew | apply keep_alloc) | exact HK.out)) hk (.inl rfl)); have n1_ := Aside0.mk (hb); have n2_ := Aside0.mk (hi); clear HK; clear HB; clear HI0; have HK := n0_; have HB := n1_; have HI0 := n2_; clear n0_ n1_ n2_; (try clear hb); (try clear hb2); (try clear hk); (try clear hi))))
          go_ret3
          exact ⟨by first | rfl | (simp [errW_none, errW_some] <;> rfl) | (simp [*, errW_none, errW_some] <;> rfl), by repeat (first | (with_reducible first | exact HI0.out | apply IsS78.alloc | apply IsS78.drewN | apply IsS78.drew | apply IsS78.set_0 | apply IsS78.set_1 | apply IsS78.set_2) | exact HI0.out), by repeat (first | (with_reducible first | exact HB.out | apply below_alloc | apply pw_below_drewN | apply below_drew1 | refine below_set ?_ (IsS78.ge HI0.out)) | exact HB.out), by repeat (first | (with_reducible first | exact HK.out | apply KeepBut.set_ | apply keep_drewN | apply keep_drew | apply keep_alloc) | exact HK.out)⟩
        · replace c31 := Bool.eq_false_iff.mpr c31
          subst c31
          have H1 : (some (a2, false, (t362 == t359), t363, t364, t365)) = some (r1, r2, r3, r4, r5, r6) := by rw [if_neg (show ¬ (false = true) by decide)] at H; exact H
          clear H
          have H := H1
          clear H1
          simp only [Option.some.injEq, Prod.mk.injEq] at H
          obtain ⟨rfl, rfl, rfl, rfl, rfl, rfl⟩ := H
          go_enter Tryd.func31, Tryd.ntmps31
          go_wp2_with (first | (go_at_call 37; (with_reducible refine (plenumref02_ReadUnsigned.calls k a1 a2 t359 t360 false _ ?side99  A29.out).mono ?_); (case side99 => first | exact HG.out | exact Glob.below HG.out (by repeat (first | (with_reducible first | exact HB.out | apply below_alloc | apply pw_below_drewN | apply below_drew1 | refine below_set ?_ (IsS78.ge HI0.out)) | exact HB.out))); rintro e w34 ⟨rfl, hb⟩; have n0_ := Aside0.mk (IsS78.below (by repeat (first | (with_reducible first | exact HI0.out | apply IsS78.alloc | apply IsS78.drewN | apply IsS78.drew | apply IsS78.set_0 | apply IsS78.set_1 | apply IsS78.set_2) | exact HI0.out)) hb); have n1_ := Aside0.mk (KeepBut.trans (by repeat (first | (with_reducible first | exact HK.out | apply KeepBut.set_ | apply keep_drewN | apply keep_drew | apply keep_alloc) | exact HK.out)) (KeepBut.of_below hb g none) (.inl rfl)); have n2_ := Aside0.mk (below_step (by repeat (first | (with_reducible first | exact HB.out | apply below_alloc | apply pw_below_drewN | apply below_drew1 | refine below_set ?_ (IsS78.ge HI0.out)) | exact HB.out)) hb); clear HI0; clear HK; clear HB; have HI0 := n0_; have HK := n1_; have HB := n2_; clear n0_ n1_ n2_; (try clear hb); (try clear hb2); (try clear hk); (try clear hi)) | (go_at_call 26; (with_reducible refine (codec_Reader_Unsigned.calls k g s0_0 s0_1 s0_2 t362 t363 t364 t365 w0 _ ?side99  ?side1 ?side2 A30.out).mono ?_); (case side1 => repeat (first | (with_reducible first | exact HI0.out | apply IsS78.alloc | apply IsS78.drewN | apply IsS78.drew | apply IsS78.set_0 | apply IsS78.set_1 | apply IsS78.set_2) | exact HI0.out)); (case side2 => repeat (first | (with_reducible first | exact HB.out | apply below_alloc | apply pw_below_drewN | apply below_drew1 | refine below_set ?_ (IsS78.ge HI0.out)) | exact HB.out)); (case side99 => exact HG.out); rintro e w35 ⟨rfl, hi, hb, hk⟩; have n0_ := Aside0.mk (KeepBut.trans (by repeat (first | (with_reducible first | exact HK.out | apply KeepBut.set_ | apply keep_drewN | apply keep_drew | apply keep_alloc) | exact HK.out)) hk (.inl rfl)); have n1_ := Aside0.mk (hb); have n2_ := Aside0.mk (hi); clear HK; clear HB; clear HI0; have HK := n0_; have HB := n1_; have HI0 := n2_; clear n0_ n1_ n2_; (try clear hb); (try clear hb2); (try clear hk); (try clear hi)))
          repeat (go_quiet (first | (go_at_call 37; (with_reducible refine (plenumref02_ReadUnsigned.calls k a1 a2 t359 t360 false _ ?side99  A29.out).mono ?_); (case side99 => first | exact HG.out | exact Glob.below HG.out (by repeat (first | (with_reducible first | exact HB.out | apply below_alloc | apply pw_below_drewN | apply below_drew1 | refine below_set ?_ (IsS78.ge HI0.out)) | exact HB.out))); rintro e w34 ⟨rfl, hb⟩; have n0_ := Aside0.mk (IsS78.below (by repeat (first | (with_reducible first | exact HI0.out | apply IsS78.alloc | apply IsS78.drewN | apply IsS78.drew | apply IsS78.set_0 | apply IsS78.set_1 | apply IsS78.set_2) | exact HI0.out)) hb); have n1_ := Aside0.mk (KeepBut.trans (by repeat (first | (with_reducible first | exact HK.out | apply KeepBut.set_ | apply keep_drewN | apply keep_drew | apply keep_alloc) | exact HK.out)) (KeepBut.of_below hb g none) (.inl rfl)); have n2_ := Aside0.mk (below_step (by repeat (first | (with_reducible first | exact HB.out | apply below_alloc | apply pw_below_drewN | apply below_drew1 | refine below_set ?_ (IsS78.ge HI0.out)) | exact HB.out)) hb); clear HI0; clear HK; clear HB; have HI0 := n0_; have HK := n1_; have HB := n2_; clear n0_ n1_ n2_; (try clear hb); (try clear hb2); (try clear hk); (try clear hi)) | (go_at_call 26; (with_reducible refine (codec_Reader_Unsigned.calls k g s0_0 s0_1 s0_2 t362 t363 t364 t365 w0 _ ?side99  ?side1 ?side2 A30.out).mono ?_); (case side1 => repeat (first | (with_reducible first | exact HI0.out | apply IsS78.alloc | apply IsS78.drewN | apply IsS78.drew | apply IsS78.set_0 | apply IsS78.set_1 | apply IsS78.set_2) | exact HI0.out)); (case side2 => repeat (first | (with_reducible first | exact HB.out | apply below_alloc | apply pw_below_drewN | apply below_drew1 | refine below_set ?_ (IsS78.ge HI0.out)) | exact HB.out)); (case side99 => exact HG.out); rintro e w35 ⟨rfl, hi, hb, hk⟩; have n0_ := Aside0.mk (KeepBut.trans (by repeat (first | (with_reducible first | exact HK.out | apply KeepBut.set_ | apply keep_drewN | apply keep_drew | apply keep_alloc) | exact HK.out)) hk (.inl rfl)); have n1_ := Aside0.mk (hb); have n2_ := Aside0.mk (hi); clear HK; clear HB; clear HI0; have HK := n0_; have HB := n1_; have HI0 := n2_; clear n0_ n1_ n2_; (try clear hb); (try clear hb2); (try clear hk); (try clear hi))); try go_wp2_with (first | (go_at_call 37; (with_reducible refine (plenumref02_ReadUnsigned.calls k a1 a2 t359 t360 false _ ?side99  A29.out).mono ?_); (case side99 => first | exact HG.out | exact Glob.below HG.out (by repeat (first | (with_reducible first | exact HB.out | apply below_alloc | apply pw_below_drewN | apply below_drew1 | refine below_set ?_ (IsS78.ge HI0.out)) | exact HB.out))); rintro e w34 ⟨rfl, hb⟩; have n0_ := Aside0.mk (IsS78.below (by repeat (first | (with_reducible first | exact HI0.out | apply IsS78.alloc | apply IsS78.drewN | apply IsS78.drew | apply IsS78.set_0 | apply IsS78.set_1 | apply IsS78.set_2) | exact HI0.out)) hb); have n1_ := Aside0.mk (KeepBut.trans (by repeat (first | (with_reducible first | exact HK.out | apply KeepBut.set_ | apply keep_drewN | apply keep_drew | apply keep_alloc) | exact HK.out)) (KeepBut.of_below hb g none) (.inl rfl)); have n2_ := Aside0.mk (below_step (by repeat (first | (with_reducible first | exact HB.out | apply below_alloc | apply pw_below_drewN | apply below_drew1 | refine below_set ?_ (IsS78.ge HI0.out)) | exact HB.out)) hb); clear HI0; clear HK; clear HB; have HI0 := n0_; have HK := n1_; have HB := n2_; clear n0_ n1_ n2_; (try clear hb); (try clear hb2); (try clear hk); (try clear hi)) | (go_at_call 26; (with_reducible refine (codec_Reader_Unsigned.calls k g s0_0 s0_1 s0_2 t362 t363 t364 t365 w0 _ ?side99  ?side1 ?side2 A30.out).mono ?_); (case side1 => repeat (first | (with_reducible first | exact HI0.out | apply IsS78.alloc | apply IsS78.drewN | apply IsS78.drew | apply IsS78.set_0 | apply IsS78.set_1 | apply IsS78.set_2) | exact HI0.out)); (case side2 => repeat (first | (with_reducible first | exact HB.out | apply below_alloc | apply pw_below_drewN | apply below_drew1 | refine below_set ?_ (IsS78.ge HI0.out)) | exact HB.out)); (case side99 => exact HG.out); rintro e w35 ⟨rfl, hi, hb, hk⟩; have n0_ := Aside0.mk (KeepBut.trans (by repeat (first | (with_reducible first | exact HK.out | apply KeepBut.set_ | apply keep_drewN | apply keep_drew | apply keep_alloc) | exact HK.out)) hk (.inl rfl)); have n1_ := Aside0.mk (hb); have n2_ := Aside0.mk (hi); clear HK; clear HB; clear HI0; have HK := n0_; have HB := n1_; have HI0 := n2_; clear n0_ n1_ n2_; (try clear hb); (try clear hb2); (try clear hk); (try clear hi))))
          go_ret3
          exact ⟨by first | rfl | (simp [errW_none, errW_some] <;> rfl) | (simp [*, errW_none, errW_some] <;> rfl), by repeat (first | (with_reducible first | exact HI0.out | apply IsS78.alloc | apply IsS78.drewN | apply IsS78.drew | apply IsS78.set_0 | apply IsS78.set_1 | apply IsS78.set_2) | exact HI0.out), by repeat (first | (with_reducible first | exact HB.out | apply below_alloc | apply pw_below_drewN | apply below_drew1 | refine below_set ?_ (IsS78.ge HI0.out)) | exact HB.out), by repeat (first | (with_reducible first | exact HK.out | apply KeepBut.set_ | apply keep_drewN | apply keep_drew | apply keep_alloc) | exact HK.out)⟩
      · rw [if_neg c28] at H
        have c28b0 : (a3 == 3) = false := beq_eq_false_iff_ne.mpr c28
        have c28b1 : (a3 != 3) = true := bne_iff_ne.mpr c28
        by_cases c36 : a3 = 4
        · rw [if_pos c36] at H
          have c36b0 : (a3 == 4) = true := beq_iff_eq.mpr c36
          have c36b1 : (a3 != 4) = false := bne_eq_false_iff_eq.mpr c36
          clear c36
          replace H := Option.bind_eq_some_iff.mp H
          obtain ⟨⟨t366, t367, t368⟩, A370, H⟩ := H
          replace H : ((codec_Reader_Signed.f k s0_0 s0_1 s0_2).bind fun bt369 => (if t368 = true then (some (t367, t368, (bt369.1 == t366), bt369.2.1, bt369.2.2.1, bt369.2.2.2)) else (some (a2, t368, (bt369.1 == t366), bt369.2.1, bt369.2.2.1, bt369.2.2.2)))) = some (r1, r2, r3, r4, r5, r6) := H
          have A37 := Aside0.mk A370
          clear A370
          replace H := Option.bind_eq_some_iff.mp H
          obtain ⟨⟨t369, t370, t371, t372⟩, A380, H⟩ := H
          replace H : (if t368 = true then (some (t367, t368, (t369 == t366), t370, t371, t372)) else (some (a2, t368, (t369 == t366), t370, t371, t372))) = some (r1, r2, r3, r4, r5, r6) := H
          have A38 := Aside0.mk A380
          clear A380
          by_cases c39 : t368 = true
          · subst c39
            have H1 : (some (t367, true, (t369 == t366), t370, t371, t372)) = some (r1, r2, r3, r4, r5, r6) := by rw [if_pos rfl] at H; exact H
            clear H
            have H := H1
            clear H1
            simp only [Option.some.injEq, Prod.mk.injEq] at H
            obtain ⟨rfl, rfl, rfl, rfl, rfl, rfl⟩ := H
            go_enter Tryd.func31, Tryd.ntmps31
            go_wp2_with (first | (go_at_call 38; (with_reducible refine (plenumref02_ReadSigned.calls k a1 a2 t366 t367 true _ ?side99  A37.out).mono ?_); (case side99 => first | exact HG.out | exact Glob.below HG.out (by repeat (first | (with_reducible first | exact HB.out | apply below_alloc | apply pw_below_drewN | apply below_drew1 | refine below_set ?_ (IsS78.ge HI0.out)) | exact HB.out))); rintro e w40 ⟨rfl, hb⟩; have n0_ := Aside0.mk (IsS78.below (by repeat (first | (with_reducible first | exact HI0.out | apply IsS78.alloc | apply IsS78.drewN | apply IsS78.drew | apply IsS78.set_0 | apply IsS78.set_1 | apply IsS78.set_2) | exact HI0.out)) hb); have n1_ := Aside0.mk (KeepBut.trans (by repeat (first | (with_reducible first | exact HK.out | apply KeepBut.set_ | apply keep_drewN | apply keep_drew | apply keep_alloc) | exact HK.out)) (KeepBut.of_below hb g none) (.inl rfl)); have n2_ := Aside0.mk (below_step (by repeat (first | (with_reducible first | exact HB.out | apply below_alloc | apply pw_below_drewN | apply below_drew1 | refine below_set ?_ (IsS78.ge HI0.out)) | exact HB.out)) hb); clear HI0; clear HK; clear HB; have HI0 := n0_; have HK := n1_; have HB := n2_; clear n0_ n1_ n2_; (try clear hb); (try clear hb2); (try clear hk); (try clear hi)) | (go_at_call 27; (with_reducible refine (codec_Reader_Signed.calls k g s0_0 s0_1 s0_2 t369 t370 t371 t372 w0 _ ?side99  ?side1 ?side2 A38.out).mono ?_); (case side1 => repeat (first | (with_reducible first | exact HI0.out | apply IsS78.alloc | apply IsS78.drewN | apply IsS78.drew | apply IsS78.set_0 | apply IsS78.set_1 | apply IsS78.set_2) | exact HI0.out)); (case side2 => repeat (first | (with_reducible first | exact HB.out | apply below_alloc | apply pw_below_drewN | apply below_drew1 | refine below_set ?_ (IsS78.ge HI0.out)) | exact HB.out)); (case side99 => exact HG.out); rintro e w41 ⟨rfl, hi, hb, hk⟩; have n0_ := Aside0.mk (KeepBut.trans (by repeat (first | (with_reducible first | exact HK.out | apply KeepBut.set_ | apply keep_drewN | apply keep_drew | apply keep_alloc) | exact HK.out)) hk (.inl rfl)); have n1_ := Aside0.mk (hb); have n2_ := Aside0.mk (hi); clear HK; clear HB; clear HI0; have HK := n0_; have HB := n1_; have HI0 := n2_; clear n0_ n1_ n2_; (try clear hb); (try clear hb2); (try clear hk); (try clear hi)))
            repeat (go_quiet (first | (go_at_call 38; (with_reducible refine (plenumref02_ReadSigned.calls k a1 a2 t366 t367 true _ ?side99  A37.out).mono ?_); (case side99 => first | exact HG.out | exact Glob.below HG.out (by repeat (first | (with_reducible first | exact HB.out | apply below_alloc | apply pw_below_drewN | apply below_drew1 | refine below_set ?_ (IsS78.ge HI0.out)) | exact HB.out))); rintro e w40 ⟨rfl, hb⟩; have n0_ := Aside0.mk (IsS78.below (by repeat (first | (with_reducible first | exact HI0.out | apply IsS78.alloc | apply IsS78.drewN | apply IsS78.drew | apply IsS78.set_0 | apply IsS78.set_1 | apply IsS78.set_2) | exact HI0.out)) hb); have n1_ := Aside0.mk (KeepBut.trans (by repeat (first | (with_reducible first | exact HK.out | apply KeepBut.set_ | apply keep_drewN | apply keep_drew | apply keep_alloc) | exact HK.out)) (KeepBut.of_below hb g none) (.inl rfl)); have n2_ := Aside0.mk (below_step (by repeat (first | (with_reducible first | exact HB.out | apply below_alloc | apply pw_below_drewN | apply below_drew1 | refine below_set ?_ (IsS78.ge HI0.out)) | exact HB.out)) hb); clear HI0; clear HK; clear HB; have HI0 := n0_; have HK := n1_; have HB := n2_; clear n0_ n1_ n2_; (try clear hb); (try clear hb2); (try clear hk); (try clear hi)) | (go_at_call 27; (with_reducible refine (codec_Reader_Signed.calls k g s0_0 s0_1 s0_2 t369 t370 t371 t372 w0 _ ?side99  ?side1 ?side2 A38.out).mono ?_); (case side1 => repeat (first | (with_reducible first | exact HI0.out | apply IsS78.alloc | apply IsS78.drewN | apply IsS78.drew | apply IsS78.set_0 | apply IsS78.set_1 | apply IsS78.set_2) | exact HI0.out)); (case side2 => repeat (first | (with_reducible first | exact HB.out | apply below_alloc | apply pw_below_drewN | apply below_drew1 | refine below_set ?_ (IsS78.ge HI0.out)) | exact HB.out)); (case side99 => exact HG.out); rintro e w41 ⟨rfl, hi, hb, hk⟩; have n0_ := Aside0.mk (KeepBut.trans (by repeat (first | (with_reducible first | exact HK.out | apply KeepBut.set_ | apply keep_drewN | apply keep_drew | apply keep_alloc) | exact HK.out)) hk (.inl rfl)); have n1_ := Aside0.mk (hb); have n2_ := Aside0.mk (hi); clear HK; clear HB; clear HI0; have HK := n0_; have HB := n1_; have HI0 := n2_; clear n0_ n1_ n2_; (try clear hb); (try clear hb2); (try clear hk); (try clear hi))); try go_wp2_with (first | (go_at_call 38; (with_reducible refine (plenumref02_ReadSigned.calls k a1 a2 t366 t367 true _ ?side99  A37.out).mono ?_); (case side99 => first | exact HG.out | exact Glob.below HG.out (by repeat (first | (with_reducible first | exact HB.out | apply below_alloc | apply pw_below_drewN | apply below_drew1 | refine below_set ?_ (IsS78.ge HI0.out)) | exact HB.out))); rintro e w40 ⟨rfl, hb⟩; have n0_ := Aside0.mk (IsS78.below (by repeat (first | (with_reducible first | exact HI0.out | apply IsS78.alloc | apply IsS78.drewN | apply IsS78.drew | apply IsS78.set_0 | apply IsS78.set_1 | apply IsS78.set_2) | exact HI0.out)) hb); have n1_ := Aside0.mk (KeepBut.trans (by repeat (first | (with_reducible first | exact HK.out | apply KeepBut.set_ | apply keep_drewN | apply keep_drew | apply keep_alloc) | exact HK.out)) (KeepBut.of_below hb g none) (.inl rfl)); have n2_ := Aside0.mk (below_step (by repeat (first | (with_reducible first | exact HB.out | apply below_alloc | apply pw_below_drewN | apply below_drew1 | refine below_set ?_ (IsS78.ge HI0.out)) | exact HB.out)) hb); clear HI0; clear HK; clear HB; have HI0 := n0_; have HK := n1_; have HB := n2_; clear n0_ n1_ n2_; (try clear hb); (try clear hb2); (try clear hk); (try clear hi)) | (go_at_call 27; (with_reducible refine (codec_Reader_Signed.calls k g s0_0 s0_1 s0_2 t369 t370 t371 t372 w0 _ ?side99  ?side1 ?side2 A38.out).mono ?_); (case side1 => repeat (first | (with_reducible first | exact HI0.out | apply IsS78.alloc | apply IsS78.drewN | apply IsS78.drew | apply IsS78.set_0 | apply IsS78.set_1 | apply IsS78.set_2) | exact HI0.out)); (case side2 => repeat (first | (with_reducible first | exact HB.out | apply below_alloc | apply pw_below_drewN | apply below_drew1 | refine below_set ?_ (IsS78.ge HI0.out)) | exact HB.out)); (case side99 => exact HG.out); rintro e w41 ⟨rfl, hi, hb, hk⟩; have n0_ := Aside0.mk (KeepBut.trans (by repeat (first | (with_reducible first | exact HK.out | apply KeepBut.set_ | apply keep_drewN | apply keep_drew | apply keep_alloc) | exact HK.out)) hk (.inl rfl)); have n1_ := Aside0.mk (hb); have n2_ := Aside0.mk (hi); clear HK; clear HB; clear HI0; have HK := n0_; have HB := n1_; have HI0 := n2_; clear n0_ n1_ n2_; (try clear hb); (try clear hb2); (try clear hk); (try clear hi))))
            go_ret3
            exact ⟨by first | rfl | (simp [errW_none, errW_some] <;> rfl) | (simp [*, errW_none, errW_some] <;> rfl), by repeat (first | (with_reducible first | exact HI0.out | apply IsS78.alloc | apply IsS78.drewN | apply IsS78.drew | apply IsS78.set_0 | apply IsS78.set_1 | apply IsS78.set_2) | exact HI0.out), by repeat (first | (with_reducible first | exact HB.out | apply below_alloc | apply pw_below_drewN | apply below_drew1 | refine below_set ?_ (IsS78.ge HI0.out)) | exact HB.out), by repeat (first | (with_reducible first | exact HK.out | apply KeepBut.set_ | apply keep_drewN | apply keep_drew | apply keep_alloc) | exact HK.out)⟩
          · replace c39 := Bool.eq_false_iff.mpr c39
            subst c39
            have H1 : (some (a2, false, (t369 == t366), t370, t371, t372)) = some (r1, r2, r3, r4, r5, r6) := by rw [if_neg (show ¬ (false = true) by decide)] at H; exact H
            clear H
            have H := H1
            clear H1
            simp only [Option.some.injEq, Prod.mk.injEq] at H
            obtain ⟨rfl, rfl, rfl, rfl, rfl, rfl⟩ := H
            go_enter Tryd.func31, Tryd.ntmps31
            go_wp2_with (first | (go_at_call 38; (with_reducible refine (plenumref02_ReadSigned.calls k a1 a2 t366 t367 false _ ?side99  A37.out).mono ?_); (case side99 => first | exact HG.out | exact Glob.below HG.out (by repeat (first | (with_reducible first | exact HB.out | apply below_alloc | apply pw_below_drewN | apply below_drew1 | refine below_set ?_ (IsS78.ge HI0.out)) | exact HB.out))); rintro e w42 ⟨rfl, hb⟩; have n0_ := Aside0.mk (IsS78.below (by repeat (first | (with_reducible first | exact HI0.out | apply IsS78.alloc | apply IsS78.drewN | apply IsS78.drew | apply IsS78.set_0 | apply IsS78.set_1 | apply IsS78.set_2) | exact HI0.out)) hb); have n1_ := Aside0.mk (KeepBut.trans (by repeat (first | (with_reducible first | exact HK.out | apply KeepBut.set_ | apply keep_drewN | apply keep_drew | apply keep_alloc) | exact HK.out)) (KeepBut.of_below hb g none) (.inl rfl)); have n2_ := Aside0.mk (below_step (by repeat (first | (with_reducible first | exact HB.out | apply below_alloc | apply pw_below_drewN | apply below_drew1 | refine below_set ?_ (IsS78.ge HI0.out)) | exact HB.out)) hb); clear HI0; clear HK; clear HB; have HI0 := n0_; have HK := n1_; have HB := n2_; clear n0_ n1_ n2_; (try clear hb); (try clear hb2); (try clear hk); (try clear hi)) | (go_at_call 27; (with_reducible refine (codec_Reader_Signed.calls k g s0_0 s0_1 s0_2 t369 t370 t371 t372 w0 _ ?side99  ?side1 ?side2 A38.out).mono ?_); (case side1 => repeat (first | (with_reducible first | exact HI0.out | apply IsS78.alloc | apply IsS78.drewN | apply IsS78.drew | apply IsS78.set_0 | apply IsS78.set_1 | apply IsS78.set_2) | exact HI0.out)); (case side2 => repeat (first | (with_reducible first | exact HB.out | apply below_alloc | apply pw_below_drewN | apply below_drew1 | refine below_set ?_ (IsS78.ge HI0.out)) | exact HB.out)); (case side99 => exact HG.out); rintro e w43 ⟨rfl, hi, hb, hk⟩; have n0_ := Aside0.mk (KeepBut.trans (by repeat (first | (with_reducible first | exact HK.out | apply KeepBut.set_ | apply keep_drewN | apply keep_drew | apply keep_alloc) | exact HK.out)) hk (.inl rfl)); have n1_ := Aside0.mk (hb); have n2_ := Aside0.mk (hi); clear HK; clear HB; clear HI0; have HK := n0_; have HB := n1_; have HI0 := n2_; clear n0_ n1_ n2_; (try clear hb); (try clear hb2); (try clear hk); (try clear hi)))
            repeat (go_quiet (first | (go_at_call 38; (with_reducible refine (plenumref02_ReadSigned.calls k a1 a2 t366 t367 false _ ?side99  A37.out).mono ?_); (case side99 => first | exact HG.out | exact Glob.below HG.out (by repeat (first | (with_reducible first | exact HB.out | apply below_alloc | apply pw_below_drewN | apply below_drew1 | refine below_set ?_ (IsS78.ge HI0.out)) | exact HB.out))); rintro e w42 ⟨rfl, hb⟩; have n0_ := Aside0.mk (IsS78.below (by repeat (first | (with_reducible first | exact HI0.out | apply IsS78.alloc | apply IsS78.drewN | apply IsS78.drew | apply IsS78.set_0 | apply IsS78.set_1 | apply IsS78.set_2) | exact HI0.out)) hb); have n1_ := Aside0.mk (KeepBut.trans (by repeat (first | (with_reducible first | exact HK.out | apply KeepBut.set_ | apply keep_drewN | apply keep_drew | apply keep_alloc) | exact HK.out)) (KeepBut.of_below hb g none) (.inl rfl)); have n2_ := Aside0.mk (below_step (by repeat (first | (with_reducible first | exact HB.out | apply below_alloc | apply pw_below_drewN | apply below_drew1 | refine below_set ?_ (IsS78.ge HI0.out)) | exact HB.out)) hb); clear HI0; clear HK; clear HB; have HI0 := n0_; have HK := n1_; have HB := n2_; clear n0_ n1_ n2_; (try clear hb); (try clear hb2); (try clear hk); (try clear hi)) | (go_at_call 27; (with_reducible refine (codec_Reader_Signed.calls k g s0_0 s0_1 s0_2 t369 t370 t371 t372 w0 _ ?side99  ?side1 ?side2 A38.out).mono ?_); (case side1 => repeat (first | (with_reducible first | exact HI0.out | apply IsS78.alloc | apply IsS78.drewN | apply IsS78.drew | apply IsS78.set_0 | apply IsS78.set_1 | apply IsS78.set_2) | exact HI0.out)); (case side2 => repeat (first | (with_reducible first | exact HB.out | apply below_alloc | apply pw_below_drewN | apply below_drew1 | refine below_set ?_ (IsS78.ge HI0.out)) | exact HB.out)); (case side99 => exact HG.out); rintro e w43 ⟨rfl, hi, hb, hk⟩; have n0_ := Aside0.mk (KeepBut.trans (by repeat (first | (with_reducible first | exact HK.out | apply KeepBut.set_ | apply keep_drewN | apply keep_drew | apply keep_alloc) | exact HK.out)) hk (.inl rfl)); have n1_ := Aside0.mk (hb); have n2_ := Aside0.mk (hi); clear HK; clear HB; clear HI0; have HK := n0_; have HB := n1_; have HI0 := n2_; clear n0_ n1_ n2_; (try clear hb); (try clear hb2); (try clear hk); (try clear hi))); try go_wp2_with (first | (go_at_call 38; (with_reducible refine (plenumref02_ReadSigned.calls k a1 a2 t366 t367 false _ ?side99  A37.out).mono ?_); (case side99 => first | exact HG.out | exact Glob.below HG.out (by repeat (first | (with_reducible first | exact HB.out | apply below_alloc | apply pw_below_drewN | apply below_drew1 | refine below_set ?_ (IsS78.ge HI0.out)) | exact HB.out))); rintro e w42 ⟨rfl, hb⟩; have n0_ := Aside0.mk (IsS78.below (by repeat (first | (with_reducible first | exact HI0.out | apply IsS78.alloc | apply IsS78.drewN | apply IsS78.drew | apply IsS78.set_0 | apply IsS78.set_1 | apply IsS78.set_2) | exact HI0.out)) hb); have n1_ := Aside0.mk (KeepBut.trans (by repeat (first | (with_reducible first | exact HK.out | apply KeepBut.set_ | apply keep_drewN | apply keep_drew | apply keep_alloc) | exact HK.out)) (KeepBut.of_below hb g none) (.inl rfl)); have n2_ := Aside0.mk (below_step (by repeat (first | (with_reducible first | exact HB.out | apply below_alloc | apply pw_below_drewN | apply below_drew1 | refine below_set ?_ (IsS78.ge HI0.out)) | exact HB.out)) hb); clear HI0; clear HK; clear HB; have HI0 := n0_; have HK := n1_; have HB := n2_; clear n0_ n1_ n2_; (try clear hb); (try clear hb2); (try clear hk); (try clear hi)) | (go_at_call 27; (with_reducible refine (codec_Reader_Signed.calls k g s0_0 s0_1 s0_2 t369 t370 t371 t372 w0 _ ?side99  ?side1 ?side2 A38.out).mono ?_); (case side1 => repeat (first | (with_reducible first | exact HI0.out | apply IsS78.alloc | apply IsS78.drewN | apply IsS78.drew | apply IsS78.set_0 | apply IsS78.set_1 | apply IsS78.set_2) | exact HI0.out)); (case side2 => repeat (first | (with_reducible first | exact HB.out | apply below_alloc | apply pw_below_drewN | apply below_drew1 | refine below_set ?_ (IsS78.ge HI0.out)) | exact HB.out)); (case side99 => exact HG.out); rintro e w43 ⟨rfl, hi, hb, hk⟩; have n0_ := Aside0.mk (KeepBut.trans (by repeat (first | (with_reducible first | exact HK.out | apply KeepBut.set_ | apply keep_drewN | apply keep_drew | apply keep_alloc) | exact HK.out)) hk (.inl rfl)); have n1_ := Aside0.mk (hb); have n2_ := Aside0.mk (hi); clear HK; clear HB; clear HI0; have HK := n0_; have HB := n1_; have HI0 := n2_; clear n0_ n1_ n2_; (try clear hb); (try clear hb2); (try clear hk); (try clear hi))))
            go_ret3
            exact ⟨by first | rfl | (simp [errW_none, errW_some] <;> rfl) | (simp [*, errW_none, errW_some] <;> rfl), by repeat (first | (with_reducible first | exact HI0.out | apply IsS78.alloc | apply IsS78.drewN | apply IsS78.drew | apply IsS78.set_0 | apply IsS78.set_1 | apply IsS78.set_2) | exact HI0.out), by repeat (first | (with_reducible first | exact HB.out | apply below_alloc | apply pw_below_drewN | apply below_drew1 | refine below_set ?_ (IsS78.ge HI0.out)) | exact HB.out), by repeat (first | (with_reducible first | exact HK.out | apply KeepBut.set_ | apply keep_drewN | apply keep_drew | apply keep_alloc) | exact HK.out)⟩
        · rw [if_neg c36] at H
          have c36b0 : (a3 == 4) = false := beq_eq_false_iff_ne.mpr c36
          have c36b1 : (a3 != 4) = true := bne_iff_ne.mpr c36
          by_cases c44 : a3 = 5
          · rw [if_pos c44] at H
            have c44b0 : (a3 == 5) = true := beq_iff_eq.mpr c44
            have c44b1 : (a3 != 5) = false := bne_eq_false_iff_eq.mpr c44
            clear c44
            replace H := Option.bind_eq_some_iff.mp H
            obtain ⟨⟨t373, t374, t375⟩, A450, H⟩ := H
            replace H : ((codec_Reader_Text.f k s0_0 s0_1 s0_2).bind fun bt376 => (if t375 = true then (some (t374, t375, (bt376.1.toList == t373.toList), bt376.2.1, bt376.2.2.1, bt376.2.2.2)) else (some (a2, t375, (bt376.1.toList == t373.toList), bt376.2.1, bt376.2.2.1, bt376.2.2.2)))) = some (r1, r2, r3, r4, r5, r6) := H
            have A45 := Aside0.mk A450
            clear A450
            replace H := Option.bind_eq_some_iff.mp H
            obtain ⟨⟨t376, t377, t378, t379⟩, A460, H⟩ := H
            replace H : (if t375 = true then (some (t374, t375, (t376.toList == t373.toList), t377, t378, t379)) else (some (a2, t375, (t376.toList == t373.toList), t377, t378, t379))) = some (r1, r2, r3, r4, r5, r6) := H
            have A46 := Aside0.mk A460
            clear A460
            by_cases c47 : t375 = true
            · subst c47
              have H1 : (some (t374, true, (t376.toList == t373.toList), t377, t378, t379)) = some (r1, r2, r3, r4, r5, r6) := by rw [if_pos rfl] at H; exact H
              clear H
              have H := H1
              clear H1
              simp only [Option.some.injEq, Prod.mk.injEq] at H
              obtain ⟨rfl, rfl, rfl, rfl, rfl, rfl⟩ := H
              go_enter Tryd.func31, Tryd.ntmps31
              go_wp2_with (first | (go_at_call 39; (with_reducible refine (plenumref02_ReadText.calls k a1 a2 t373 t374 true _ ?side99  A45.out).mono ?_); (case side99 => first | exact HG.out | exact Glob.below HG.out (by repeat (first | (with_reducible first | exact HB.out | apply below_alloc | apply pw_below_drewN | apply below_drew1 | refine below_set ?_ (IsS78.ge HI0.out)) | exact HB.out))); rintro e w48 ⟨rfl, hb⟩; have n0_ := Aside0.mk (IsS78.below (by repeat (first | (with_reducible first | exact HI0.out | apply IsS78.alloc | apply IsS78.drewN | apply IsS78.drew | apply IsS78.set_0 | apply IsS78.set_1 | apply IsS78.set_2) | exact HI0.out)) hb); have n1_ := Aside0.mk (KeepBut.trans (by repeat (first | (with_reducible first | exact HK.out | apply KeepBut.set_ | apply keep_drewN | apply keep_drew | apply keep_alloc) | exact HK.out)) (KeepBut.of_below hb g none) (.inl rfl)); have n2_ := Aside0.mk (below_step (by repeat (first | (with_reducible first | exact HB.out | apply below_alloc | apply pw_below_drewN | apply below_drew1 | refine below_set ?_ (IsS78.ge HI0.out)) | exact HB.out)) hb); clear HI0; clear HK; clear HB; have HI0 := n0_; have HK := n1_; have HB := n2_; clear n0_ n1_ n2_; (try clear hb); (try clear hb2); (try clear hk); (try clear hi)) | (go_at_call 28; (with_reducible refine (codec_Reader_Text.calls k g s0_0 s0_1 s0_2 t376 t377 t378 t379 w0 _ ?side99  ?side1 ?side2 A46.out).mono ?_); (case side1 => repeat (first | (with_reducible first | exact HI0.out | apply IsS78.alloc | apply IsS78.drewN | apply IsS78.drew | apply IsS78.set_0 | apply IsS78.set_1 | apply IsS78.set_2) | exact HI0.out)); (case side2 => repeat (first | (with_reducible first | exact HB.out | apply below_alloc | apply pw_below_drewN | apply below_drew1 | refine below_set ?_ (IsS78.ge HI0.out)) | exact HB.out)); (case side99 => exact HG.out); rintro e w49 ⟨rfl, hi, hb, hk⟩; have n0_ := Aside0.mk (KeepBut.trans (by repeat (first | (with_reducible first | exact HK.out | apply KeepBut.set_ | apply keep_drewN | apply keep_drew | apply keep_alloc) | exact HK.out)) hk (.inl rfl)); have n1_ := Aside0.mk (hb); have n2_ := Aside0.mk (hi); clear HK; clear HB; clear HI0; have HK := n0_; have HB := n1_; have HI0 := n2_; clear n0_ n1_ n2_; (try clear hb); (try clear hb2); (try clear hk); (try clear hi)))
              repeat (go_quiet (first | (go_at_call 39; (with_reducible refine (plenumref02_ReadText.calls k a1 a2 t373 t374 true _ ?side99  A45.out).mono ?_); (case side99 => first | exact HG.out | exact Glob.below HG.out (by repeat (first | (with_reducible first | exact HB.out | apply below_alloc | apply pw_below_drewN | apply below_drew1 | refine below_set ?_ (IsS78.ge HI0.out)) | exact HB.out))); rintro e w48 ⟨rfl, hb⟩; have n0_ := Aside0.mk (IsS78.below (by repeat (first | (with_reducible first | exact HI0.out | apply IsS78.alloc | apply IsS78.drewN | apply IsS78.drew | apply IsS78.set_0 | apply IsS78.set_1 | apply IsS78.set_2) | exact HI0.out)) hb); have n1_ := Aside0.mk (KeepBut.trans (by repeat (first | (with_reducible first | exact HK.out | apply KeepBut.set_ | apply keep_drewN | apply keep_drew | apply keep_alloc) | exact HK.out)) (KeepBut.of_below hb g none) (.inl rfl)); have n2_ := Aside0.mk (below_step (by repeat (first | (with_reducible first | exact HB.out | apply below_alloc | apply pw_below_drewN | apply below_drew1 | refine below_set ?_ (IsS78.ge HI0.out)) | exact HB.out)) hb); clear HI0; clear HK; clear HB; have HI0 := n0_; have HK := n1_; have HB := n2_; clear n0_ n1_ n2_; (try clear hb); (try clear hb2); (try clear hk); (try clear hi)) | (go_at_call 28; (with_reducible refine (codec_Reader_Text.calls k g s0_0 s0_1 s0_2 t376 t377 t378 t379 w0 _ ?side99  ?side1 ?side2 A46.out).mono ?_); (case side1 => repeat (first | (with_reducible first | exact HI0.out | apply IsS78.alloc | apply IsS78.drewN | apply IsS78.drew | apply IsS78.set_0 | apply IsS78.set_1 | apply IsS78.set_2) | exact HI0.out)); (case side2 => repeat (first | (with_reducible first | exact HB.out | apply below_alloc | apply pw_below_drewN | apply below_drew1 | refine below_set ?_ (IsS78.ge HI0.out)) | exact HB.out)); (case side99 => exact HG.out); rintro e w49 ⟨rfl, hi, hb, hk⟩; have n0_ := Aside0.mk (KeepBut.trans (by repeat (first | (with_reducible first | exact HK.out | apply KeepBut.set_ | apply keep_drewN | apply keep_drew | apply keep_alloc) | exact HK.out)) hk (.inl rfl)); have n1_ := Aside0.mk (hb); have n2_ := Aside0.mk (hi); clear HK; clear HB; clear HI0; have HK := n0_; have HB := n1_; have HI0 := n2_; clear n0_ n1_ n2_; (try clear hb); (try clear hb2); (try clear hk); (try clear hi))); try go_wp2_with (first | (go_at_call 39; (with_reducible refine (plenumref02_ReadText.calls k a1 a2 t373 t374 true _ ?side99  A45.out).mono ?_); (case side99 => first | exact HG.out | exact Glob.below HG.out (by repeat (first | (with_reducible first | exact HB.out | apply below_alloc | apply pw_below_drewN | apply below_drew1 | refine below_set ?_ (IsS78.ge HI0.out)) | exact HB.out))); rintro e w48 ⟨rfl, hb⟩; have n0_ := Aside0.mk (IsS78.below (by repeat (first | (with_reducible first | exact HI0.out | apply IsS78.alloc | apply IsS78.drewN | apply IsS78.drew | apply IsS78.set_0 | apply IsS78.set_1 | apply IsS78.set_2) | exact HI0.out)) hb); have n1_ := Aside0.mk (KeepBut.trans (by repeat (first | (with_reducible first | exact HK.out | apply KeepBut.set_ | apply keep_drewN | apply keep_drew | apply keep_alloc) | exact HK.out)) (KeepBut.of_below hb g none) (.inl rfl)); have n2_ := Aside0.mk (below_step (by repeat (first | (with_reducible first | exact HB.out | apply below_alloc | apply pw_below_drewN | apply below_drew1 | refine below_set ?_ (IsS78.ge HI0.out)) | exact HB.out)) hb); clear HI0; clear HK; clear HB; have HI0 := n0_; have HK := n1_; have HB := n2_; clear n0_ n1_ n2_; (try clear hb); (try clear hb2); (try clear hk); (try clear hi)) | (go_at_call 28; (with_reducible refine (codec_Reader_Text.calls k g s0_0 s0_1 s0_2 t376 t377 t378 t379 w0 _ ?side99  ?side1 ?side2 A46.out).mono ?_); (case side1 => repeat (first | (with_reducible first | exact HI0.out | apply IsS78.alloc | apply IsS78.drewN | apply IsS78.drew | apply IsS78.set_0 | apply IsS78.set_1 | apply IsS78.set_2) | exact HI0.out)); (case side2 => repeat (first | (with_reducible first | exact HB.out | apply below_alloc | apply pw_below_drewN | apply below_drew1 | refine below_set ?_ (IsS78.ge HI0.out)) | exact HB.out)); (case side99 => exact HG.out); rintro e w49 ⟨rfl, hi, hb, hk⟩; have n0_ := Aside0.mk (KeepBut.trans (by repeat (first | (with_reducible first | exact HK.out | apply KeepBut.set_ | apply keep_drewN | apply keep_drew | apply keep_alloc) | exact HK.out)) hk (.inl rfl)); have n1_ := Aside0.mk (hb); have n2_ := Aside0.mk (hi); clear HK; clear HB; clear HI0; have HK := n0_; have HB := n1_; have HI0 := n2_; clear n0_ n1_ n2_; (try clear hb); (try clear hb2); (try clear hk); (try clear hi))))
              go_ret3
              exact ⟨by first | rfl | (simp [errW_none, errW_some] <;> rfl) | (simp [*, errW_none, errW_some] <;> rfl), by repeat (first | (with_reducible first | exact HI0.out | apply IsS78.alloc | apply IsS78.drewN | apply IsS78.drew | apply IsS78.set_0 | apply IsS78.set_1 | apply IsS78.set_2) | exact HI0.out), by repeat (first | (with_reducible first | exact HB.out | apply below_alloc | apply pw_below_drewN | apply below_drew1 | refine below_set ?_ (IsS78.ge HI0.out)) | exact HB.out), by repeat (first | (with_reducible first | exact HK.out | apply KeepBut.set_ | apply keep_drewN | apply keep_drew | apply keep_alloc) | exact HK.out)⟩
            · replace c47 := Bool.eq_false_iff.mpr c47
              subst c47
              have H1 : (some (a2, false, (t376.toList == t373.toList), t377, t378, t379)) = some (r1, r2, r3, r4, r5, r6) := by rw [if_neg (show ¬ (false = true) by decide)] at H; exact H
              clear H
              have H := H1
              clear H1
              simp only [Option.some.injEq, Prod.mk.injEq] at H
              obtain ⟨rfl, rfl, rfl, rfl, rfl, rfl⟩ := H
              go_enter Tryd.func31, Tryd.ntmps31
              go_wp2_with (first | (go_at_call 39; (with_reducible refine (plenumref02_ReadText.calls k a1 a2 t373 t374 false _ ?side99  A45.out).mono ?_); (case side99 => first | exact HG.out | exact Glob.below HG.out (by repeat (first | (with_reducible first | exact HB.out | apply below_alloc | apply pw_below_drewN | apply below_drew1 | refine below_set ?_ (IsS78.ge HI0.out)) | exact HB.out))); rintro e w50 ⟨rfl, hb⟩; have n0_ := Aside0.mk (IsS78.below (by repeat (first | (with_reducible first | exact HI0.out | apply IsS78.alloc | apply IsS78.drewN | apply IsS78.drew | apply IsS78.set_0 | apply IsS78.set_1 | apply IsS78.set_2) | exact HI0.out)) hb); have n1_ := Aside0.mk (KeepBut.trans (by repeat (first | (with_reducible first | exact HK.out | apply KeepBut.set_ | apply keep_drewN | apply keep_drew | apply keep_alloc) | exact HK.out)) (KeepBut.of_below hb g none) (.inl rfl)); have n2_ := Aside0.mk (below_step (by repeat (first | (with_reducible first | exact HB.out | apply below_alloc | apply pw_below_drewN | apply below_drew1 | refine below_set ?_ (IsS78.ge HI0.out)) | exact HB.out)) hb); clear HI0; clear HK; clear HB; have HI0 := n0_; have HK := n1_; have HB := n2_; clear n0_ n1_ n2_; (try clear hb); (try clear hb2); (try clear hk); (try clear hi)) | (go_at_call 28; (with_reducible refine (codec_Reader_Text.calls k g s0_0 s0_1 s0_2 t376 t377 t378 t379 w0 _ ?side99  ?side1 ?side2 A46.out).mono ?_); (case side1 => repeat (first | (with_reducible first | exact HI0.out | apply IsS78.alloc | apply IsS78.drewN | apply IsS78.drew | apply IsS78.set_0 | apply IsS78.set_1 | apply IsS78.set_2) | exact HI0.out)); (case side2 => repeat (first | (with_reducible first | exact HB.out | apply below_alloc | apply pw_below_drewN | apply below_drew1 | refine below_set ?_ (IsS78.ge HI0.out)) | exact HB.out)); (case side99 => exact HG.out); rintro e w51 ⟨rfl, hi, hb, hk⟩; have n0_ := Aside0.mk (KeepBut.trans (by repeat (first | (with_reducible first | exact HK.out | apply KeepBut.set_ | apply keep_drewN | apply keep_drew | apply keep_alloc) | exact HK.out)) hk (.inl rfl)); have n1_ := Aside0.mk (hb); have n2_ := Aside0.mk (hi); clear HK; clear HB; clear HI0; have HK := n0_; have HB := n1_; have HI0 := n2_; clear n0_ n1_ n2_; (try clear hb); (try clear hb2); (try clear hk); (try clear hi)))
              repeat (go_quiet (first | (go_at_call 39; (with_reducible refine (plenumref02_ReadText.calls k a1 a2 t373 t374 false _ ?side99  A45.out).mono ?_); (case side99 => first | exact HG.out | exact Glob.below HG.out (by repeat (first | (with_reducible first | exact HB.out | apply below_alloc | apply pw_below_drewN | apply below_drew1 | refine below_set ?_ (IsS78.ge HI0.out)) | exact HB.out))); rintro e w50 ⟨rfl, hb⟩; have n0_ := Aside0.mk (IsS78.below (by repeat (first | (with_reducible first | exact HI0.out | apply IsS78.alloc | apply IsS78.drewN | apply IsS78.drew | apply IsS78.set_0 | apply IsS78.set_1 | apply IsS78.set_2) | exact HI0.out)) hb); have n1_ := Aside0.mk (KeepBut.trans (by repeat (first | (with_reducible first | exact HK.out | apply KeepBut.set_ | apply keep_drewN | apply keep_drew | apply keep_alloc) | exact HK.out)) (KeepBut.of_below hb g none) (.inl rfl)); have n2_ := Aside0.mk (below_step (by repeat (first | (with_reducible first | exact HB.out | apply below_alloc | apply pw_below_drewN | apply below_drew1 | refine below_set ?_ (IsS78.ge HI0.out)) | exact HB.out)) hb); clear HI0; clear HK; clear HB; have HI0 := n0_; have HK := n1_; have HB := n2_; clear n0_ n1_ n2_; (try clear hb); (try clear hb2); (try clear hk); (try clear hi)) | (go_at_call 28; (with_reducible refine (codec_Reader_Text.calls k g s0_0 s0_1 s0_2 t376 t377 t378 t379 w0 _ ?side99  ?side1 ?side2 A46.out).mono ?_); (case side1 => repeat (first | (with_reducible first | exact HI0.out | apply IsS78.alloc | apply IsS78.drewN | apply IsS78.drew | apply IsS78.set_0 | apply IsS78.set_1 | apply IsS78.set_2) | exact HI0.out)); (case side2 => repeat (first | (with_reducible first | exact HB.out | apply below_alloc | apply pw_below_drewN | apply below_drew1 | refine below_set ?_ (IsS78.ge HI0.out)) | exact HB.out)); (case side99 => exact HG.out); rintro e w51 ⟨rfl, hi, hb, hk⟩; have n0_ := Aside0.mk (KeepBut.trans (by repeat (first | (with_reducible first | exact HK.out | apply KeepBut.set_ | apply keep_drewN | apply keep_drew | apply keep_alloc) | exact HK.out)) hk (.inl rfl)); have n1_ := Aside0.mk (hb); have n2_ := Aside0.mk (hi); clear HK; clear HB; clear HI0; have HK := n0_; have HB := n1_; have HI0 := n2_; clear n0_ n1_ n2_; (try clear hb); (try clear hb2); (try clear hk); (try clear hi))); try go_wp2_with (first | (go_at_call 39; (with_reducible refine (plenumref02_ReadText.calls k a1 a2 t373 t374 false _ ?side99  A45.out).mono ?_); (case side99 => first | exact HG.out | exact Glob.below HG.out (by repeat (first | (with_reducible first | exact HB.out | apply below_alloc | apply pw_below_drewN | apply below_drew1 | refine below_set ?_ (IsS78.ge HI0.out)) | exact HB.out))); rintro e w50 ⟨rfl, hb⟩; have n0_ := Aside0.mk (IsS78.below (by repeat (first | (with_reducible first | exact HI0.out | apply IsS78.alloc | apply IsS78.drewN | apply IsS78.drew | apply IsS78.set_0 | apply IsS78.set_1 | apply IsS78.set_2) | exact HI0.out)) hb); have n1_ := Aside0.mk (KeepBut.trans (by repeat (first | (with_reducible first | exact HK.out | apply KeepBut.set_ | apply keep_drewN | apply keep_drew | apply keep_alloc) | exact HK.out)) (KeepBut.of_below hb g none) (.inl rfl)); have n2_ := Aside0.mk (below_step (by repeat (first | (with_reducible first | exact HB.out | apply below_alloc | apply pw_below_drewN | apply below_drew1 | refine below_set ?_ (IsS78.ge HI0.out)) | exact HB.out)) hb); clear HI0; clear HK; clear HB; have HI0 := n0_; have HK := n1_; have HB := n2_; clear n0_ n1_ n2_; (try clear hb); (try clear hb2); (try clear hk); (try clear hi)) | (go_at_call 28; (with_reducible refine (codec_Reader_Text.calls k g s0_0 s0_1 s0_2 t376 t377 t378 t379 w0 _ ?side99  ?side1 ?side2 A46.out).mono ?_); (case side1 => repeat (first | (with_reducible first | exact HI0.out | apply IsS78.alloc | apply IsS78.drewN | apply IsS78.drew | apply IsS78.set_0 | apply IsS78.set_1 | apply IsS78.set_2) | exact HI0.out)); (case side2 => repeat (first | (with_reducible first | exact HB.out | apply below_alloc | apply pw_below_drewN | apply below_drew1 | refine below_set ?_ (IsS78.ge HI0.out)) | exact HB.out)); (case side99 => exact HG.out); rintro e w51 ⟨rfl, hi, hb, hk⟩; have n0_ := Aside0.mk (KeepBut.trans (by repeat (first | (with_reducible first | exact HK.out | apply KeepBut.set_ | apply keep_drewN | apply keep_drew | apply keep_alloc) | exact HK.out)) hk (.inl rfl)); have n1_ := Aside0.mk (hb); have n2_ := Aside0.mk (hi); clear HK; clear HB; clear HI0; have HK := n0_; have HB := n1_; have HI0 := n2_; clear n0_ n1_ n2_; (try clear hb); (try clear hb2); (try clear hk); (try clear hi))))
              go_ret3
              exact ⟨by first | rfl | (simp [errW_none, errW_some] <;> rfl) | (simp [*, errW_none, errW_some] <;> rfl), by repeat (first | (with_reducible first | exact HI0.out | apply IsS78.alloc | apply IsS78.drewN | apply IsS78.drew | apply IsS78.set_0 | apply IsS78.set_1 | apply IsS78.set_2) | exact HI0.out), by repeat (first | (with_reducible first | exact HB.out | apply below_alloc | apply pw_below_drewN | apply below_drew1 | refine below_set ?_ (IsS78.ge HI0.out)) | exact HB.out), by repeat (first | (with_reducible first | exact HK.out | apply KeepBut.set_ | apply keep_drewN | apply keep_drew | apply keep_alloc) | exact HK.out)⟩
          · rw [if_neg c44] at H
            have c44b0 : (a3 == 5) = false := beq_eq_false_iff_ne.mpr c44
            have c44b1 : (a3 != 5) = true := bne_iff_ne.mpr c44
            by_cases c52 : a3 = 6
            · rw [if_pos c52] at H
              have c52b0 : (a3 == 6) = true := beq_iff_eq.mpr c52
              have c52b1 : (a3 != 6) = false := bne_eq_false_iff_eq.mpr c52
              clear c52
              replace H := Option.bind_eq_some_iff.mp H
              obtain ⟨⟨t380, t381, t382⟩, A530, H⟩ := H
              replace H : ((codec_Reader_List.f k s0_0 s0_1 s0_2).bind fun bt383 => (if t382 = true then (some (t381, t382, (bt383.1 == t380), bt383.2.1, bt383.2.2.1, bt383.2.2.2)) else (some (a2, t382, (bt383.1 == t380), bt383.2.1, bt383.2.2.1, bt383.2.2.2)))) = some (r1, r2, r3, r4, r5, r6) := H
              have A53 := Aside0.mk A530
              clear A530
              replace H := Option.bind_eq_some_iff.mp H
              obtain ⟨⟨t383, t384, t385, t386⟩, A540, H⟩ := H
              replace H : (if t382 = true then (some (t381, t382, (t383 == t380), t384, t385, t386)) else (some (a2, t382, (t383 == t380), t384, t385, t386))) = some (r1, r2, r3, r4, r5, r6) := H
              have A54 := Aside0.mk A540
              clear A540
              by_cases c55 : t382 = true
              · subst c55
                have H1 : (some (t381, true, (t383 == t380), t384, t385, t386)) = some (r1, r2, r3, r4, r5, r6) := by rw [if_pos rfl] at H; exact H
                clear H
                have H := H1
                clear H1
                simp only [Option.some.injEq, Prod.mk.injEq] at H
                obtain ⟨rfl, rfl, rfl, rfl, rfl, rfl⟩ := H
                go_enter Tryd.func31, Tryd.ntmps31
                go_wp2_with (first | (go_at_call 40; (with_reducible refine (plenumref02_ReadHead.calls k a1 a2 t380 t381 true _ ?side99  A53.out).mono ?_); (case side99 => first | exact HG.out | exact Glob.below HG.out (by repeat (first | (with_reducible first | exact HB.out | apply below_alloc | apply pw_below_drewN | apply below_drew1 | refine below_set ?_ (IsS78.ge HI0.out)) | exact HB.out))); rintro e w56 ⟨rfl, hb⟩; have n0_ := Aside0.mk (IsS78.below (by repeat (first | (with_reducible first | exact HI0.out | apply IsS78.alloc | apply IsS78.drewN | apply IsS78.drew | apply IsS78.set_0 | apply IsS78.set_1 | apply IsS78.set_2) | exact HI0.out)) hb); have n1_ := Aside0.mk (KeepBut.trans (by repeat (first | (with_reducible first | exact HK.out | apply KeepBut.set_ | apply keep_drewN | apply keep_drew | apply keep_alloc) | exact HK.out)) (KeepBut.of_below hb g none) (.inl rfl)); have n2_ := Aside0.mk (below_step (by repeat (first | (with_reducible first | exact HB.out | apply below_alloc | apply pw_below_drewN | apply below_drew1 | refine below_set ?_ (IsS78.ge HI0.out)) | exact HB.out)) hb); clear HI0; clear HK; clear HB; have HI0 := n0_; have HK := n1_; have HB := n2_; clear n0_ n1_ n2_; (try clear hb); (try clear hb2); (try clear hk); (try clear hi)) | (go_at_call 29; (with_reducible refine (codec_Reader_List.calls k g s0_0 s0_1 s0_2 t383 t384 t385 t386 w0 _ ?side99  ?side1 ?side2 A54.out).mono ?_); (case side1 => repeat (first | (with_reducible first | exact HI0.out | apply IsS78.alloc | apply IsS78.drewN | apply IsS78.drew | apply IsS78.set_0 | apply IsS78.set_1 | apply IsS78.set_2) | exact HI0.out)); (case side2 => repeat (first | (with_reducible first | exact HB.out | apply below_alloc | apply pw_below_drewN | apply below_drew1 | refine below_set ?_ (IsS78.ge HI0.out)) | exact HB.out)); (case side99 => exact HG.out); rintro e w57 ⟨rfl, hi, hb, hk⟩; have n0_ := Aside0.mk (KeepBut.trans (by repeat (first | (with_reducible first | exact HK.out | apply KeepBut.set_ | apply keep_drewN | apply keep_drew | apply keep_alloc) | exact HK.out)) hk (.inl rfl)); have n1_ := Aside0.mk (hb); have n2_ := Aside0.mk (hi); clear HK; clear HB; clear HI0; have HK := n0_; have HB := n1_; have HI0 := n2_; clear n0_ n1_ n2_; (try clear hb); (try clear hb2); (try clear hk); (try clear hi)))
                repeat (go_quiet (first | (go_at_call 40; (with_reducible refine (plenumref02_ReadHead.calls k a1 a2 t380 t381 true _ ?side99  A53.out).mono ?_); (case side99 => first | exact HG.out | exact Glob.below HG.out (by repeat (first | (with_reducible first | exact HB.out | apply below_alloc | apply pw_below_drewN | apply below_drew1 | refine below_set ?_ (IsS78.ge HI0.out)) | exact HB.out))); rintro e w56 ⟨rfl, hb⟩; have n0_ := Aside0.mk (IsS78.below (by repeat (first | (with_reducible first | exact HI0.out | apply IsS78.alloc | apply IsS78.drewN | apply IsS78.drew | apply IsS78.set_0 | apply IsS78.set_1 | apply IsS78.set_2) | exact HI0.out)) hb); have n1_ := Aside0.mk (KeepBut.trans (by repeat (first | (with_reducible first | exact HK.out | apply KeepBut.set_ | apply keep_drewN | apply keep_drew | apply keep_alloc) | exact HK.out)) (KeepBut.of_below hb g none) (.inl rfl)); have n2_ := Aside0.mk (below_step (by repeat (first | (with_reducible first | exact HB.out | apply below_alloc | apply pw_below_drewN | apply below_drew1 | refine below_set ?_ (IsS78.ge HI0.out)) | exact HB.out)) hb); clear HI0; clear HK; clear HB; have HI0 := n0_; have HK := n1_; have HB := n2_; clear n0_ n1_ n2_; (try clear hb); (try clear hb2); (try clear hk); (try clear hi)) | (go_at_call 29; (with_reducible refine (codec_Reader_List.calls k g s0_0 s0_1 s0_2 t383 t384 t385 t386 w0 _ ?side99  ?side1 ?side2 A54.out).mono ?_); (case side1 => repeat (first | (with_reducible first | exact HI0.out | apply IsS78.alloc | apply IsS78.drewN | apply IsS78.drew | apply IsS78.set_0 | apply IsS78.set_1 | apply IsS78.set_2) | exact HI0.out)); (case side2 => repeat (first | (with_reducible first | exact HB.out | apply below_alloc | apply pw_below_drewN | apply below_drew1 | refine below_set ?_ (IsS78.ge HI0.out)) | exact HB.out)); (case side99 => exact HG.out); rintro e w57 ⟨rfl, hi, hb, hk⟩; have n0_ := Aside0.mk (KeepBut.trans (by repeat (first | (with_reducible first | exact HK.out | apply KeepBut.set_ | apply keep_drewN | apply keep_drew | apply keep_alloc) | exact HK.out)) hk (.inl rfl)); have n1_ := Aside0.mk (hb); have n2_ := Aside0.mk (hi); clear HK; clear HB; clear HI0; have HK := n0_; have HB := n1_; have HI0 := n2_; clear n0_ n1_ n2_; (try clear hb); (try clear hb2); (try clear hk); (try clear hi))); try go_wp2_with (first | (go_at_call 40; (with_reducible refine (plenumref02_ReadHead.calls k a1 a2 t380 t381 true _ ?side99  A53.out).mono ?_); (case side99 => first | exact HG.out | exact Glob.below HG.out (by repeat (first | (with_reducible first | exact HB.out | apply below_alloc | apply pw_below_drewN | apply below_drew1 | refine below_set ?_ (IsS78.ge HI0.out)) | exact HB.out))); rintro e w56 ⟨rfl, hb⟩; have n0_ := Aside0.mk (IsS78.below (by repeat (first | (with_reducible first | exact HI0.out | apply IsS78.alloc | apply IsS78.drewN | apply IsS78.drew | apply IsS78.set_0 | apply IsS78.set_1 | apply IsS78.set_2) | exact HI0.out)) hb); have n1_ := Aside0.mk (KeepBut.trans (by repeat (first | (with_reducible first | exact HK.out | apply KeepBut.set_ | apply keep_drewN | apply keep_drew | apply keep_alloc) | exact HK.out)) (KeepBut.of_below hb g none) (.inl rfl)); have n2_ := Aside0.mk (below_step (by repeat (first | (with_reducible first | exact HB.out | apply below_alloc | apply pw_below_drewN | apply below_drew1 | refine below_set ?_ (IsS78.ge HI0.out)) | exact HB.out)) hb); clear HI0; clear HK; clear HB; have HI0 := n0_; have HK := n1_; have HB := n2_; clear n0_ n1_ n2_; (try clear hb); (try clear hb2); (try clear hk); (try clear hi)) | (go_at_call 29; (with_reducible refine (codec_Reader_List.calls k g s0_0 s0_1 s0_2 t383 t384 t385 t386 w0 _ ?side99  ?side1 ?side2 A54.out).mono ?_); (case side1 => repeat (first | (with_reducible first | exact HI0.out | apply IsS78.alloc | apply IsS78.drewN | apply IsS78.drew | apply IsS78.set_0 | apply IsS78.set_1 | apply IsS78.set_2) | exact HI0.out)); (case side2 => repeat (first | (with_reducible first | exact HB.out | apply below_alloc | apply pw_below_drewN | apply below_drew1 | refine below_set ?_ (IsS78.ge HI0.out)) | exact HB.out)); (case side99 => exact HG.out); rintro e w57 ⟨rfl, hi, hb, hk⟩; have n0_ := Aside0.mk (KeepBut.trans (by repeat (first | (with_reducible first | exact HK.out | apply KeepBut.set_ | apply keep_drewN | apply keep_drew | apply keep_alloc) | exact HK.out)) hk (.inl rfl)); have n1_ := Aside0.mk (hb); have n2_ := Aside0.mk (hi); clear HK; clear HB; clear HI0; have HK := n0_; have HB := n1_; have HI0 := n2_; clear n0_ n1_ n2_; (try clear hb); (try clear hb2); (try clear hk); (try clear hi))))
                go_ret3
                exact ⟨by first | rfl | (simp [errW_none, errW_some] <;> rfl) | (simp [*, errW_none, errW_some] <;> rfl), by repeat (first | (with_reducible first | exact HI0.out | apply IsS78.alloc | apply IsS78.drewN | apply IsS78.drew | apply IsS78.set_0 | apply IsS78.set_1 | apply IsS78.set_2) | exact HI0.out), by repeat (first | (with_reducible first | exact HB.out | apply below_alloc | apply pw_below_drewN | apply below_drew1 | refine below_set ?_ (IsS78.ge HI0.out)) | exact HB.out), by repeat (first | (with_reducible first | exact HK.out | apply KeepBut.set_ | apply keep_drewN | apply keep_drew | apply keep_alloc) | exact HK.out)⟩
              · replace c55 := Bool.eq_false_iff.mpr c55
                subst c55
                have H1 : (some (a2, false, (t383 == t380), t384, t385, t386)) = some (r1, r2, r3, r4, r5, r6) := by rw [if_neg (show ¬ (false = true) by decide)] at H; exact H
                clear H
                have H := H1
                clear H1
                simp only [Option.some.injEq, Prod.mk.injEq] at H
                obtain ⟨rfl, rfl, rfl, rfl, rfl, rfl⟩ := H
                go_enter Tryd.func31, Tryd.ntmps31
                go_wp2_with (first | (go_at_call 40; (with_reducible refine (plenumref02_ReadHead.calls k a1 a2 t380 t381 false _ ?side99  A53.out).mono ?_); (case side99 => first | exact HG.out | exact Glob.below HG.out (by repeat (first | (with_reducible first | exact HB.out | apply below_alloc | apply pw_below_drewN | apply below_drew1 | refine below_set ?_ (IsS78.ge HI0.out)) | exact HB.out))); rintro e w58 ⟨rfl, hb⟩; have n0_ := Aside0.mk (IsS78.below (by repeat (first | (with_reducible first | exact HI0.out | apply IsS78.alloc | apply IsS78.drewN | apply IsS78.drew | apply IsS78.set_0 | apply IsS78.set_1 | apply IsS78.set_2) | exact HI0.out)) hb); have n1_ := Aside0.mk (KeepBut.trans (by repeat (first | (with_reducible first | exact HK.out | apply KeepBut.set_ | apply keep_drewN | apply keep_drew | apply keep_alloc) | exact HK.out)) (KeepBut.of_below hb g none) (.inl rfl)); have n2_ := Aside0.mk (below_step (by repeat (first | (with_reducible first | exact HB.out | apply below_alloc | apply pw_below_drewN | apply below_drew1 | refine below_set ?_ (IsS78.ge HI0.out)) | exact HB.out)) hb); clear HI0; clear HK; clear HB; have HI0 := n0_; have HK := n1_; have HB := n2_; clear n0_ n1_ n2_; (try clear hb); (try clear hb2); (try clear hk); (try clear hi)) | (go_at_call 29; (with_reducible refine (codec_Reader_List.calls k g s0_0 s0_1 s0_2 t383 t384 t385 t386 w0 _ ?side99  ?side1 ?side2 A54.out).mono ?_); (case side1 => repeat (first | (with_reducible first | exact HI0.out | apply IsS78.alloc | apply IsS78.drewN | apply IsS78.drew | apply IsS78.set_0 | apply IsS78.set_1 | apply IsS78.set_2) | exact HI0.out)); (case side2 => repeat (first | (with_reducible first | exact HB.out | apply below_alloc | apply pw_below_drewN | apply below_drew1 | refine below_set ?_ (IsS78.ge HI0.out)) | exact HB.out)); (case side99 => exact HG.out); rintro e w59 ⟨rfl, hi, hb, hk⟩; have n0_ := Aside0.mk (KeepBut.trans (by repeat (first | (with_reducible first | exact HK.out | apply KeepBut.set_ | apply keep_drewN | apply keep_drew | apply keep_alloc) | exact HK.out)) hk (.inl rfl)); have n1_ := Aside0.mk (hb); have n2_ := Aside0.mk (hi); clear HK; clear HB; clear HI0; have HK := n0_; have HB := n1_; have HI0 := n2_; clear n0_ n1_ n2_; (try clear hb); (try clear hb2); (try clear hk); (try clear hi)))
                repeat (go_quiet (first | (go_at_call 40; (with_reducible refine (plenumref02_ReadHead.calls k a1 a2 t380 t381 false _ ?side99  A53.out).mono ?_); (case side99 => first | exact HG.out | exact Glob.below HG.out (by repeat (first | (with_reducible first | exact HB.out | apply below_alloc | apply pw_below_drewN | apply below_drew1 | refine below_set ?_ (IsS78.ge HI0.out)) | exact HB.out))); rintro e w58 ⟨rfl, hb⟩; have n0_ := Aside0.mk (IsS78.below (by repeat (first | (with_reducible first | exact HI0.out | apply IsS78.alloc | apply IsS78.drewN | apply IsS78.drew | apply IsS78.set_0 | apply IsS78.set_1 | apply IsS78.set_2) | exact HI0.out)) hb); have n1_ := Aside0.mk (KeepBut.trans (by repeat (first | (with_reducible first | exact HK.out | apply KeepBut.set_ | apply keep_drewN | apply keep_drew | apply keep_alloc) | exact HK.out)) (KeepBut.of_below hb g none) (.inl rfl)); have n2_ := Aside0.mk (below_step (by repeat (first | (with_reducible first | exact HB.out | apply below_alloc | apply pw_below_drewN | apply below_drew1 | refine below_set ?_ (IsS78.ge HI0.out)) | exact HB.out)) hb); clear HI0; clear HK; clear HB; have HI0 := n0_; have HK := n1_; have HB := n2_; clear n0_ n1_ n2_; (try clear hb); (try clear hb2); (try clear hk); (try clear hi)) | (go_at_call 29; (with_reducible refine (codec_Reader_List.calls k g s0_0 s0_1 s0_2 t383 t384 t385 t386 w0 _ ?side99  ?side1 ?side2 A54.out).mono ?_); (case side1 => repeat (first | (with_reducible first | exact HI0.out | apply IsS78.alloc | apply IsS78.drewN | apply IsS78.drew | apply IsS78.set_0 | apply IsS78.set_1 | apply IsS78.set_2) | exact HI0.out)); (case side2 => repeat (first | (with_reducible first | exact HB.out | apply below_alloc | apply pw_below_drewN | apply below_drew1 | refine below_set ?_ (IsS78.ge HI0.out)) | exact HB.out)); (case side99 => exact HG.out); rintro e w59 ⟨rfl, hi, hb, hk⟩; have n0_ := Aside0.mk (KeepBut.trans (by repeat (first | (with_reducible first | exact HK.out | apply KeepBut.set_ | apply keep_drewN | apply keep_drew | apply keep_alloc) | exact HK.out)) hk (.inl rfl)); have n1_ := Aside0.mk (hb); have n2_ := Aside0.mk (hi); clear HK; clear HB; clear HI0; have HK := n0_; have HB := n1_; have HI0 := n2_; clear n0_ n1_ n2_; (try clear hb); (try clear hb2); (try clear hk); (try clear hi))); try go_wp2_with (first | (go_at_call 40; (with_reducible refine (plenumref02_ReadHead.calls k a1 a2 t380 t381 false _ ?side99  A53.out).mono ?_); (case side99 => first | exact HG.out | exact Glob.below HG.out (by repeat (first | (with_reducible first | exact HB.out | apply below_alloc | apply pw_below_drewN | apply below_drew1 | refine below_set ?_ (IsS78.ge HI0.out)) | exact HB.out))); rintro e w58 ⟨rfl, hb⟩; have n0_ := Aside0.mk (IsS78.below (by repeat (first | (with_reducible first | exact HI0.out | apply IsS78.alloc | apply IsS78.drewN | apply IsS78.drew | apply IsS78.set_0 | apply IsS78.set_1 | apply IsS78.set_2) | exact HI0.out)) hb); have n1_ := Aside0.mk (KeepBut.trans (by repeat (first | (with_reducible first | exact HK.out | apply KeepBut.set_ | apply keep_drewN | apply keep_drew | apply keep_alloc) | exact HK.out)) (KeepBut.of_below hb g none) (.inl rfl)); have n2_ := Aside0.mk (below_step (by repeat (first | (with_reducible first | exact HB.out | apply below_alloc | apply pw_below_drewN | apply below_drew1 | refine below_set ?_ (IsS78.ge HI0.out)) | exact HB.out)) hb); clear HI0; clear HK; clear HB; have HI0 := n0_; have HK := n1_; have HB := n2_; clear n0_ n1_ n2_; (try clear hb); (try clear hb2); (try clear hk); (try clear hi)) | (go_at_call 29; (with_reducible refine (codec_Reader_List.calls k g s0_0 s0_1 s0_2 t383 t384 t385 t386 w0 _ ?side99  ?side1 ?side2 A54.out).mono ?_); (case side1 => repeat (first | (with_reducible first | exact HI0.out | apply IsS78.alloc | apply IsS78.drewN | apply IsS78.drew | apply IsS78.set_0 | apply IsS78.set_1 | apply IsS78.set_2) | exact HI0.out)); (case side2 => repeat (first | (with_reducible first | exact HB.out | apply below_alloc | apply pw_below_drewN | apply below_drew1 | refine below_set ?_ (IsS78.ge HI0.out)) | exact HB.out)); (case side99 => exact HG.out); rintro e w59 ⟨rfl, hi, hb, hk⟩; have n0_ := Aside0.mk (KeepBut.trans (by repeat (first | (with_reducible first | exact HK.out | apply KeepBut.set_ | apply keep_drewN | apply keep_drew | apply keep_alloc) | exact HK.out)) hk (.inl rfl)); have n1_ := Aside0.mk (hb); have n2_ := Aside0.mk (hi); clear HK; clear HB; clear HI0; have HK := n0_; have HB := n1_; have HI0 := n2_; clear n0_ n1_ n2_; (try clear hb); (try clear hb2); (try clear hk); (try clear hi))))
                go_ret3
                exact ⟨by first | rfl | (simp [errW_none, errW_some] <;> rfl) | (simp [*, errW_none, errW_some] <;> rfl), by repeat (first | (with_reducible first | exact HI0.out | apply IsS78.alloc | apply IsS78.drewN | apply IsS78.drew | apply IsS78.set_0 | apply IsS78.set_1 | apply IsS78.set_2) | exact HI0.out), by repeat (first | (with_reducible first | exact HB.out | apply below_alloc | apply pw_below_drewN | apply below_drew1 | refine below_set ?_ (IsS78.ge HI0.out)) | exact HB.out), by repeat (first | (with_reducible first | exact HK.out | apply KeepBut.set_ | apply keep_drewN | apply keep_drew | apply keep_alloc) | exact HK.out)⟩
            · rw [if_neg c52] at H
              have c52b0 : (a3 == 6) = false := beq_eq_false_iff_ne.mpr c52
              have c52b1 : (a3 != 6) = true := bne_iff_ne.mpr c52
              simp only [Option.some.injEq, Prod.mk.injEq] at H
              obtain ⟨rfl, rfl, rfl, rfl, rfl, rfl⟩ := H
              go_enter Tryd.func31, Tryd.ntmps31
              go_wp2
              repeat (go_quiet (fail); try go_wp2)
              go_ret3
              exact ⟨by first | rfl | (simp [errW_none, errW_some] <;> rfl) | (simp [*, errW_none, errW_some] <;> rfl), by repeat (first | (with_reducible first | exact HI0.out | apply IsS78.alloc | apply IsS78.drewN | apply IsS78.drew | apply IsS78.set_0 | apply IsS78.set_1 | apply IsS78.set_2) | exact HI0.out), by repeat (first | (with_reducible first | exact HB.out | apply below_alloc | apply pw_below_drewN | apply below_drew1 | refine below_set ?_ (IsS78.ge HI0.out)) | exact HB.out), by repeat (first | (with_reducible first | exact HK.out | apply KeepBut.set_ | apply keep_drewN | apply keep_drew | apply keep_alloc) | exact HK.out)⟩
end Go.Proofs.YtndeikikeeeigaaDoor.Q
end
section
namespace Go.Proofs.YtndeikikeeeigaaDoor.Q
open Go.RowKit Go.Proofs.YtndeikikeeeigaaDoorW.PrintWords Go.Proofs.YtndeikikeeeigaaDoorW.PrintLast Go.Proofs.YtndeikikeeeigaaDoorW.PrintMore
attribute [local go_sem] max2_int min2_int max_two min_two max_three min_three max_four min_four
set_option linter.unusedVariables false
set_option linter.unusedSimpArgs false
mutual
def plenumlaw02_CodecRaw.j0 : Nat → ByteArray → List Int → Bool → Option (Bool)
  | 0, _, _, _ => none
  | k + 1, x0, x1, x23 => if x23 = true then (some true) else ((codec_NewReader.f x0).bind fun bt388 => (plenumlaw02_CodecRaw.l0 k x0 x1 0 0 0 bt388.1 bt388.2.1 bt388.2.2))
def plenumlaw02_CodecRaw.l0 : Nat → ByteArray → List Int → Int → Int → Int → ByteArray → Int → Int → Option (Bool)
  | 0, _, _, _, _, _, _, _, _ => none
  | k + 1, x0, x1, x6, x7, x8, x392000, x392001, x392002 => if x8 ≤ (x1.length : Int) then ((plenumref02_Kind.f k x0 x6).bind fun t392 => (if x7 = 0 then (if x6 < (x0.size : Int) then (plenumlaw02_CodecRaw.j2 k x0 x1 x6 x7 x8 t392 2 x392000 x392001 x392002) else (plenumlaw02_CodecRaw.j2 k x0 x1 x6 x7 x8 t392 x7 x392000 x392001 x392002)) else (plenumlaw02_CodecRaw.j2 k x0 x1 x6 x7 x8 0 x7 x392000 x392001 x392002))) else (some true)
def plenumlaw02_CodecRaw.j2 : Nat → ByteArray → List Int → Int → Int → Int → Int → Int → ByteArray → Int → Int → Option (Bool)
  | 0, _, _, _, _, _, _, _, _, _, _ => none
  | k + 1, x0, x1, x6, x7, x8, x9, x10, x392000, x392001, x392002 => (codec_Reader_Kind.f k x392000 x392001 x392002).bind fun bt393 => (if bt393.1 = x9 then ((codec_Reader_Offset.f bt393.2.1 bt393.2.2.1 bt393.2.2.2).bind fun bt397 => (if bt397.1 = x6 then ((codec_Reader_Err.f bt397.2.1 bt397.2.2.1 bt397.2.2.2).bind fun bt401 => (if bt401.1 = x7 then ((codec_Reader_End.f bt401.2.1 bt401.2.2.1 bt401.2.2.2).bind fun bt405 => (plenumlaw02_CodecRaw.j3 k x0 x1 x6 x7 x8 (bt405.1 != x10) bt405.2.1 bt405.2.2.1 bt405.2.2.2)) else (plenumlaw02_CodecRaw.j3 k x0 x1 x6 x7 x8 true bt401.2.1 bt401.2.2.1 bt401.2.2.2))) else (plenumlaw02_CodecRaw.j3 k x0 x1 x6 x7 x8 true bt397.2.1 bt397.2.2.1 bt397.2.2.2))) else (plenumlaw02_CodecRaw.j3 k x0 x1 x6 x7 x8 true bt393.2.1 bt393.2.2.1 bt393.2.2.2))
def plenumlaw02_CodecRaw.j3 : Nat → ByteArray → List Int → Int → Int → Int → Bool → ByteArray → Int → Int → Option (Bool)
  | 0, _, _, _, _, _, _, _, _, _ => none
  | k + 1, x0, x1, x6, x7, x8, x65, x392000, x392001, x392002 => if x65 = true then (none) else (if x8 = (x1.length : Int) then (some true) else (if x7 = 0 then (if 0 ≤ x8 then (if x8 < (x1.length : Int) then ((plenumlaw02_step.f k x392000 x392001 x392002 x0 x6 (rd x1 x8)).bind fun bt430 => (if bt430.2.2.1 = true then (if bt430.2.1 = true then (plenumlaw02_CodecRaw.l0 k x0 x1 bt430.1 x7 (wrap64 (x8 + 1)) bt430.2.2.2.1 bt430.2.2.2.2.1 bt430.2.2.2.2.2) else (plenumlaw02_CodecRaw.l0 k x0 x1 bt430.1 2 (wrap64 (x8 + 1)) bt430.2.2.2.1 bt430.2.2.2.2.1 bt430.2.2.2.2.2)) else (none))) else (none)) else (none)) else ((codec_Reader_Unsigned.f k x392000 x392001 x392002).bind fun bt409 => (if bt409.1 = 0 then ((codec_Reader_Signed.f k bt409.2.1 bt409.2.2.1 bt409.2.2.2).bind fun bt413 => (if bt413.1 = 0 then ((codec_Reader_Text.f k bt413.2.1 bt413.2.2.1 bt413.2.2.2).bind fun bt417 => (if bt417.1.toList = ([] : List UInt8) then ((codec_Reader_List.f k bt417.2.1 bt417.2.2.1 bt417.2.2.2).bind fun bt421 => (if bt421.1 = 0 then ((codec_Reader_Bool.f k bt421.2.1 bt421.2.2.1 bt421.2.2.2).bind fun bt425 => (if bt425.1 = true then (none) else (plenumlaw02_CodecRaw.l0 k x0 x1 x6 x7 (wrap64 (x8 + 1)) bt425.2.1 bt425.2.2.1 bt425.2.2.2))) else (none))) else (none))) else (none))) else (none)))))
end
def plenumlaw02_CodecRaw.f (k : Nat) (a0 : ByteArray) (l1 : List Int) : Option (Bool) := (plenumlaw02_awake.f k).bind fun t387 => (if t387 = true then (if (a0.size : Int) > 300 then (plenumlaw02_CodecRaw.j0 k a0 l1 true) else (plenumlaw02_CodecRaw.j0 k a0 l1 (decide ((l1.length : Int) > 40)))) else (none))
set_option maxHeartbeats 8000000 in
set_option maxRecDepth 100000 in
theorem plenumlaw02_CodecRaw.calls (k : Nat) (a0 : ByteArray) (A1 : Option Addr) (c1 : Nat) (l1 : List Int) (r : Bool) (w : World) (hG : Glob w) (hr1 : Kd.C (Kd.int .i64) w A1 l1.length l1) (hc1 : l1.length ≤ c1) (h : plenumlaw02_CodecRaw.f k a0 l1 = some r) :
    Calls Tryd.prog 7 #[.string a0, .slice A1 l1.length c1] w fun e w' => e = .returned (.bool r) ∧ Below w.heap.size w w' := by
  have HG := Aside0.mk hG
  clear hG
  have HR1 := Aside0.mk hr1
  have HC1 := Aside0.mk hc1
  clear hr1 hc1
  have HB := Aside0.mk (Below.refl w.heap.size w)
  have H : ((plenumlaw02_awake.f k).bind fun t387 => (if t387 = true then (if (a0.size : Int) > 300 then (plenumlaw02_CodecRaw.j0 k a0 l1 true) else (plenumlaw02_CodecRaw.j0 k a0 l1 (decide ((l1.length : Int) > 40)))) else (none))) = some r := h
  clear h
  replace H := Option.bind_eq_some_iff.mp H
  obtain ⟨t387, A30, H⟩ := H
  replace H : (if t387 = true then (if (a0.size : Int) > 300 then (plenumlaw02_CodecRaw.j0 k a0 l1 true) else (plenumlaw02_CodecRaw.j0 k a0 l1 (decide ((l1.length : Int) > 40)))) else (none)) = some r := H
  have A3 := Aside0.mk A30
  clear A30
  by_cases c4 : t387 = true
  · subst c4
    have H1 : (if (a0.size : Int) > 300 then (plenumlaw02_CodecRaw.j0 k a0 l1 true) else (plenumlaw02_CodecRaw.j0 k a0 l1 (decide ((l1.length : Int) > 40)))) = some r := by rw [if_pos rfl] at H; exact H
    clear H
    have H := H1
    clear H1
    have HC5 := Aside0.mk H
    clear H
    go_enter Tryd.func7, Tryd.ntmps7
    go_upto_region 3 with (first | ((with_reducible refine gate_callee (f := 9) rfl ?_); refine goesL_ (some 14) rfl rfl Tryd.func9 (by kernel_rfl) rfl #[] rfl (by (try simp only [List.map_toArray, List.map_cons, List.map_nil]); first | done | rfl | (simp only [List.length_drop, List.length_take]; rfl)) ?_; (with_reducible refine (plenumlaw02_awake.calls k  true _ ?side99  A3.out).mono ?_); (case side99 => first | exact HG.out | exact Glob.below HG.out (by repeat (first | (with_reducible first | exact HB.out | apply below_alloc | apply pw_below_drewN | apply below_drew1) | exact HB.out))); rintro e w6 ⟨rfl, hb⟩; refine ⟨_, rfl, ?_⟩; have n0_ := Aside0.mk (below_step (by repeat (first | (with_reducible first | exact HB.out | apply below_alloc | apply pw_below_drewN | apply below_drew1) | exact HB.out)) hb); clear HB; have HB := n0_; clear n0_; (try clear hb); (try clear hb2); (try clear hk); (try clear hi)))
    (try simp only [Act.put, List.setIfInBounds_toArray, List.set_cons_zero, List.set_cons_succ])
    go_cut [23] (fun v23 wc => ∃ (kq : Nat) (x23_4 : Bool), v23 = .bool x23_4 ∧ Aside0 (plenumlaw02_CodecRaw.j0 kq a0 l1 x23_4 = some r) ∧ Aside0 (kq ≤ k) ∧ Aside0 (Below w.heap.size w wc))
    case first =>
      have H := HC5.out
      clear HC5
      by_cases c7 : (a0.size : Int) > 300
      · rw [if_pos c7] at H
        have c7b0 : decide (300 < (a0.size : Int)) = true := decide_eq_true c7
        have c7b1 : decide (300 < a0.size) = true := decide_eq_true (by omega)
        clear c7
        (first | rw [c7b0] | (simp only [i64_w, i32_w]; rw [c7b0]) | skip)
        have H' := Aside0.mk H
        clear H
        go_wp2
        go_meet
        case rel => exact ⟨_, (true), (by first | rfl | (simp; done) | (simp [*]; done)), H', ⟨by first | omega | exact Nat.le_refl _⟩, ⟨by repeat (first | (with_reducible first | exact HB.out | apply below_alloc | apply pw_below_drewN | apply below_drew1) | exact HB.out)⟩⟩
      · rw [if_neg c7] at H
        have c7b0 : decide (300 < (a0.size : Int)) = false := decide_eq_false c7
        have c7b1 : decide (300 < a0.size) = false := decide_eq_false (by omega)
        clear c7
        (first | rw [c7b0] | (simp only [i64_w, i32_w]; rw [c7b0]) | skip)
        have H' := Aside0.mk H
        clear H
        go_wp2
        go_meet
        case rel => exact ⟨_, (decide ((l1.length : Int) > 40)), (by first | rfl | (simp; done) | (simp [*]; done)), H', ⟨by first | omega | exact Nat.le_refl _⟩, ⟨by repeat (first | (with_reducible first | exact HB.out | apply below_alloc | apply pw_below_drewN | apply below_drew1) | exact HB.out)⟩⟩
    case rest =>
      clear HC5
      try clear c1
      try clear p2
      try clear c4
      try clear c7
      try clear c7b0
      try clear c7b1
      obtain ⟨kq, x23_4, rfl, HA, HJ4, HB⟩ := hcut
      cases kq with
      | zero => exact absurd HA.out (by simp [plenumlaw02_CodecRaw.j0])
      | succ kj4 =>
        have H := HA.out
        clear HA
        simp only [plenumlaw02_CodecRaw.j0] at H
        by_cases c8 : x23_4 = true
        · subst c8
          have H1 : (some true) = some r := by rw [if_pos rfl] at H; exact H
          clear H
          have H := H1
          clear H1
          obtain rfl := Option.some.inj H
          go_wp2
          go_ret
          exact ⟨by first | rfl | (simp [errW_none, errW_some] <;> rfl) | (simp [*, errW_none, errW_some] <;> rfl), by repeat (first | (with_reducible first | exact HB.out | apply below_alloc | apply pw_below_drewN | apply below_drew1) | exact HB.out)⟩
        · replace c8 := Bool.eq_false_iff.mpr c8
          subst c8
          have H1 : ((codec_NewReader.f a0).bind fun bt388 => (plenumlaw02_CodecRaw.l0 kj4 a0 l1 0 0 0 bt388.1 bt388.2.1 bt388.2.2)) = some r := by rw [if_neg (show ¬ (false = true) by decide)] at H; exact H
          clear H
          have H := H1
          clear H1
          replace H := Option.bind_eq_some_iff.mp H
          obtain ⟨⟨t388, t389, t390⟩, A90, H⟩ := H
          replace H : (plenumlaw02_CodecRaw.l0 kj4 a0 l1 0 0 0 t388 t389 t390) = some r := H
          have A9 := Aside0.mk A90
          clear A90
          have H' := Aside0.mk H
          clear H
          go_wp2_with (first | ((with_reducible refine gate_callee (f := 20) rfl ?_); refine goesL_ (some 25) rfl rfl Tryd.func20 (by kernel_rfl) rfl #[.string a0] rfl (by (try simp only [List.map_toArray, List.map_cons, List.map_nil]); first | done | rfl | (simp only [List.length_drop, List.length_take]; rfl)) ?_; (with_reducible refine (codec_NewReader.calls a0 t388 t389 t390 w _ ?side99  ?side1 A9.out).mono ?_); (case side1 => repeat (first | (with_reducible first | exact HB.out | apply below_alloc | apply pw_below_drewN | apply below_drew1) | exact HB.out)); (case side99 => exact HG.out); rintro e w10 ⟨g391, rfl, hi, hb, hb2⟩; refine ⟨_, rfl, ?_⟩; have n0_ := Aside0.mk (hb); have n1_ := Aside0.mk (hi); clear HB; have HB := n0_; have HI391 := n1_; clear n0_ n1_; (try clear hb); (try clear hb2); (try clear hk); (try clear hi)))
          go_loopg [6, 7, 8] kj4 (fun kq v6 v7 v8 w' => ∃ (x6_2 : Int) (x7_2 : Int) (x8_2 : Int) (x392000_2 : ByteArray) (x392001_2 : Int) (x392002_2 : Int), v6 = .int .i64 x6_2 ∧ v7 = .int .i64 x7_2 ∧ v8 = .int .i64 x8_2 ∧ Aside0 (plenumlaw02_CodecRaw.l0 kq a0 l1 x6_2 x7_2 x8_2 x392000_2 x392001_2 x392002_2 = some r) ∧ Aside0 (kq ≤ kj4) ∧ Aside0 (IsS78 w w' g391 x392000_2 x392001_2 x392002_2) ∧ Aside0 (Below w.heap.size w w'))
          case atStart => exact ⟨(0), (0), (0), (t388), (t389), (t390), (by first | rfl | (simp; done) | (simp [*]; done)), (by first | rfl | (simp; done) | (simp [*]; done)), (by first | rfl | (simp; done) | (simp [*]; done)), H', ⟨Nat.le_refl _⟩, ⟨by repeat (first | (with_reducible first | exact HI391.out | apply IsS78.alloc | apply IsS78.drewN | apply IsS78.drew | apply IsS78.set_0 | apply IsS78.set_1 | apply IsS78.set_2) | exact HI391.out)⟩, ⟨by repeat (first | (with_reducible first | exact HB.out | apply below_alloc | apply pw_below_drewN | apply below_drew1 | refine below_set ?_ (IsS78.ge HI391.out)) | exact HB.out)⟩⟩
          case round =>
            clear H'
            try clear c1
            try clear c2
            try clear p2
            try clear c4
            try clear c7
            try clear c7b0
            try clear c7b1
            try clear c8
            try clear c9
            try clear p2
            obtain ⟨x6_2, x7_2, x8_2, x392000_2, x392001_2, x392002_2, rfl, rfl, rfl, HA, HK2, HI391, HB⟩ := hrel
            cases gk with
            | zero => exact absurd HA.out (by simp [plenumlaw02_CodecRaw.l0])
            | succ k2 =>
              have H := HA.out
              clear HA
              simp only [plenumlaw02_CodecRaw.l0] at H
              by_cases c11 : x8_2 ≤ (l1.length : Int)
              · rw [if_pos c11] at H
                have c11b0 : decide (x8_2 ≤ (l1.length : Int)) = true := decide_eq_true c11
                clear c11
                replace H := Option.bind_eq_some_iff.mp H
                obtain ⟨t392, A120, H⟩ := H
                replace H : (if x7_2 = 0 then (if x6_2 < (a0.size : Int) then (plenumlaw02_CodecRaw.j2 k2 a0 l1 x6_2 x7_2 x8_2 t392 2 x392000_2 x392001_2 x392002_2) else (plenumlaw02_CodecRaw.j2 k2 a0 l1 x6_2 x7_2 x8_2 t392 x7_2 x392000_2 x392001_2 x392002_2)) else (plenumlaw02_CodecRaw.j2 k2 a0 l1 x6_2 x7_2 x8_2 0 x7_2 x392000_2 x392001_2 x392002_2)) = some r := H
                have A12 := Aside0.mk A120
                clear A120
                have HC13 := Aside0.mk H
                clear H
                go_upto_if 39 with (first | ((with_reducible refine gate_callee (f := 21) rfl ?_); refine goesL_ (some 36) rfl rfl Tryd.func21 (by kernel_rfl) rfl #[.string a0, .int .i64 x6_2] rfl (by (try simp only [List.map_toArray, List.map_cons, List.map_nil]); first | done | rfl | (simp only [List.length_drop, List.length_take]; rfl)) ?_; (with_reducible refine (plenumref02_Kind.calls k2 a0 x6_2 t392 _ ?side99  A12.out).mono ?_); (case side99 => first | exact HG.out | exact Glob.below HG.out (by repeat (first | (with_reducible first | exact HB.out | apply below_alloc | apply pw_below_drewN | apply below_drew1 | refine below_set ?_ (IsS78.ge HI391.out)) | exact HB.out))); rintro e w' ⟨rfl, ⟨nd, rfl⟩⟩; refine ⟨_, rfl, ?_⟩))
                (try simp only [Act.put, List.setIfInBounds_toArray, List.set_cons_zero, List.set_cons_succ])
                go_cut [9, 10] (fun v9 v10 wc => ∃ (kq : Nat) (x9_12 : Int) (x10_12 : Int), v9 = .int .i64 x9_12 ∧ v10 = .int .i64 x10_12 ∧ Aside0 (plenumlaw02_CodecRaw.j2 kq a0 l1 x6_2 x7_2 x8_2 x9_12 x10_12 x392000_2 x392001_2 x392002_2 = some r) ∧ Aside0 (kq ≤ k2) ∧ Aside0 (IsS78 w wc g391 x392000_2 x392001_2 x392002_2) ∧ Aside0 (Below w.heap.size w wc))
                case first =>
                  have H := HC13.out
                  clear HC13
                  by_cases c14 : x7_2 = 0
                  · rw [if_pos c14] at H
                    have c14b0 : (x7_2 == 0) = true := beq_iff_eq.mpr c14
                    have c14b1 : (x7_2 != 0) = false := bne_eq_false_iff_eq.mpr c14
                    clear c14
                    (first | rw [c14b0] | (simp only [i64_w, i32_w]; rw [c14b0]) | skip)
                    by_cases c15 : x6_2 < (a0.size : Int)
                    · rw [if_pos c15] at H
                      have c15b0 : decide (x6_2 < (a0.size : Int)) = true := decide_eq_true c15
                      clear c15
                      have H' := Aside0.mk H
                      clear H
                      go_wp2
                      go_meet
                      case rel => exact ⟨_, (t392), (2), (by first | rfl | (simp; done) | (simp [*]; done)), (by first | rfl | (simp; done) | (simp [*]; done)), H', ⟨by have := HJ4.out; have := HK2.out; first | omega | exact Nat.le_refl _⟩, ⟨by repeat (first | (with_reducible first | exact HI391.out | apply IsS78.alloc | apply IsS78.drewN | apply IsS78.drew | apply IsS78.set_0 | apply IsS78.set_1 | apply IsS78.set_2) | exact HI391.out)⟩, ⟨by repeat (first | (with_reducible first | exact HB.out | apply below_alloc | apply pw_below_drewN | apply below_drew1 | refine below_set ?_ (IsS78.ge HI391.out)) | exact HB.out)⟩⟩
                    · rw [if_neg c15] at H
                      have c15b0 : decide (x6_2 < (a0.size : Int)) = false := decide_eq_false c15
                      clear c15
                      have H' := Aside0.mk H
                      clear H
                      go_wp2
                      go_meet
                      case rel => exact ⟨_, (t392), (x7_2), (by first | rfl | (simp; done) | (simp [*]; done)), (by first | rfl | (simp; done) | (simp [*]; done)), H', ⟨by have := HJ4.out; have := HK2.out; first | omega | exact Nat.le_refl _⟩, ⟨by repeat (first | (with_reducible first | exact HI391.out | apply IsS78.alloc | apply IsS78.drewN | apply IsS78.drew | apply IsS78.set_0 | apply IsS78.set_1 | apply IsS78.set_2) | exact HI391.out)⟩, ⟨by repeat (first | (with_reducible first | exact HB.out | apply below_alloc | apply pw_below_drewN | apply below_drew1 | refine below_set ?_ (IsS78.ge HI391.out)) | exact HB.out)⟩⟩
                  · rw [if_neg c14] at H
                    have c14b0 : (x7_2 == 0) = false := beq_eq_false_iff_ne.mpr c14
                    have c14b1 : (x7_2 != 0) = true := bne_iff_ne.mpr c14
                    (first | rw [c14b0] | (simp only [i64_w, i32_w]; rw [c14b0]) | skip)
                    have H' := Aside0.mk H
                    clear H
                    go_wp2
                    go_meet
                    case rel => exact ⟨_, (0), (x7_2), (by first | rfl | (simp; done) | (simp [*]; done)), (by first | rfl | (simp; done) | (simp [*]; done)), H', ⟨by have := HJ4.out; have := HK2.out; first | omega | exact Nat.le_refl _⟩, ⟨by repeat (first | (with_reducible first | exact HI391.out | apply IsS78.alloc | apply IsS78.drewN | apply IsS78.drew | apply IsS78.set_0 | apply IsS78.set_1 | apply IsS78.set_2) | exact HI391.out)⟩, ⟨by repeat (first | (with_reducible first | exact HB.out | apply below_alloc | apply pw_below_drewN | apply below_drew1 | refine below_set ?_ (IsS78.ge HI391.out)) | exact HB.out)⟩⟩
                case rest =>
                  clear HC13
                  try clear c1
                  try clear c2
                  try clear p2
                  try clear c4
                  try clear c7
                  try clear c7b0
                  try clear c7b1
                  try clear c8
                  try clear c9
                  try clear c11
                  try clear c11b0
                  try clear c14
                  try clear c14b0
                  try clear c14b1
                  try clear c15
                  try clear c15b0
                  try clear p2
                  obtain ⟨kq, x9_12, x10_12, rfl, rfl, HA, HJ12, HI391, HB⟩ := hcut
                  cases kq with
                  | zero => exact absurd HA.out (by simp [plenumlaw02_CodecRaw.j2])
                  | succ kj12 =>
                    have H := HA.out
                    clear HA
                    simp only [plenumlaw02_CodecRaw.j2] at H
                    have HC16 := Aside0.mk H
                    clear H
                    go_upto_region 19 with (fail)
                    go_cut [65] (fun v65 wc => ∃ (kq : Nat) (x65_15 : Bool) (x392000_15 : ByteArray) (x392001_15 : Int) (x392002_15 : Int), v65 = .bool x65_15 ∧ Aside0 (plenumlaw02_CodecRaw.j3 kq a0 l1 x6_2 x7_2 x8_2 x65_15 x392000_15 x392001_15 x392002_15 = some r) ∧ Aside0 (kq ≤ kj12) ∧ Aside0 (IsS78 w wc g391 x392000_15 x392001_15 x392002_15) ∧ Aside0 (Below w.heap.size w wc))
                    case first =>
                      have H := HC16.out
                      clear HC16
                      replace H := Option.bind_eq_some_iff.mp H
                      obtain ⟨⟨t393, t394, t395, t396⟩, A170, H⟩ := H
                      replace H : (if t393 = x9_12 then ((codec_Reader_Offset.f t394 t395 t396).bind fun bt397 => (if bt397.1 = x6_2 then ((codec_Reader_Err.f bt397.2.1 bt397.2.2.1 bt397.2.2.2).bind fun bt401 => (if bt401.1 = x7_2 then ((codec_Reader_End.f bt401.2.1 bt401.2.2.1 bt401.2.2.2).bind fun bt405 => (plenumlaw02_CodecRaw.j3 kj12 a0 l1 x6_2 x7_2 x8_2 (bt405.1 != x10_12) bt405.2.1 bt405.2.2.1 bt405.2.2.2)) else (plenumlaw02_CodecRaw.j3 kj12 a0 l1 x6_2 x7_2 x8_2 true bt401.2.1 bt401.2.2.1 bt401.2.2.2))) else (plenumlaw02_CodecRaw.j3 kj12 a0 l1 x6_2 x7_2 x8_2 true bt397.2.1 bt397.2.2.1 bt397.2.2.2))) else (plenumlaw02_CodecRaw.j3 kj12 a0 l1 x6_2 x7_2 x8_2 true t394 t395 t396)) = some r := H
                      have A17 := Aside0.mk A170
                      clear A170
                      by_cases c18 : t393 = x9_12
                      · rw [if_pos c18] at H
                        have c18b0 : (t393 == x9_12) = true := beq_iff_eq.mpr c18
                        have c18b1 : (t393 != x9_12) = false := bne_eq_false_iff_eq.mpr c18
                        clear c18
                        (first | rw [c18b0] | (simp only [i64_w, i32_w]; rw [c18b0]) | skip)
                        replace H := Option.bind_eq_some_iff.mp H
                        obtain ⟨⟨t397, t398, t399, t400⟩, A190, H⟩ := H
                        replace H : (if t397 = x6_2 then ((codec_Reader_Err.f t398 t399 t400).bind fun bt401 => (if bt401.1 = x7_2 then ((codec_Reader_End.f bt401.2.1 bt401.2.2.1 bt401.2.2.2).bind fun bt405 => (plenumlaw02_CodecRaw.j3 kj12 a0 l1 x6_2 x7_2 x8_2 (bt405.1 != x10_12) bt405.2.1 bt405.2.2.1 bt405.2.2.2)) else (plenumlaw02_CodecRaw.j3 kj12 a0 l1 x6_2 x7_2 x8_2 true bt401.2.1 bt401.2.2.1 bt401.2.2.2))) else (plenumlaw02_CodecRaw.j3 kj12 a0 l1 x6_2 x7_2 x8_2 true t398 t399 t400)) = some r := H
                        have A19 := Aside0.mk A190
                        clear A190
                        by_cases c20 : t397 = x6_2
                        · rw [if_pos c20] at H
                          have c20b0 : (t397 == x6_2) = true := beq_iff_eq.mpr c20
                          have c20b1 : (t397 != x6_2) = false := bne_eq_false_iff_eq.mpr c20
                          clear c20
                          replace H := Option.bind_eq_some_iff.mp H
                          obtain ⟨⟨t401, t402, t403, t404⟩, A210, H⟩ := H
                          replace H : (if t401 = x7_2 then ((codec_Reader_End.f t402 t403 t404).bind fun bt405 => (plenumlaw02_CodecRaw.j3 kj12 a0 l1 x6_2 x7_2 x8_2 (bt405.1 != x10_12) bt405.2.1 bt405.2.2.1 bt405.2.2.2)) else (plenumlaw02_CodecRaw.j3 kj12 a0 l1 x6_2 x7_2 x8_2 true t402 t403 t404)) = some r := H
                          have A21 := Aside0.mk A210
                          clear A210
                          by_cases c22 : t401 = x7_2
                          · rw [if_pos c22] at H
                            have c22b0 : (t401 == x7_2) = true := beq_iff_eq.mpr c22
                            have c22b1 : (t401 != x7_2) = false := bne_eq_false_iff_eq.mpr c22
                            clear c22
                            replace H := Option.bind_eq_some_iff.mp H
                            obtain ⟨⟨t405, t406, t407, t408⟩, A230, H⟩ := H
                            replace H : (plenumlaw02_CodecRaw.j3 kj12 a0 l1 x6_2 x7_2 x8_2 (t405 != x10_12) t406 t407 t408) = some r := H
                            have A23 := Aside0.mk A230
                            clear A230
                            have H' := Aside0.mk H
                            clear H
                            go_wp2_with (first | ((with_reducible refine gate_callee (f := 22) rfl ?_); refine goesL_ (some 45) rfl rfl Tryd.func22 (by kernel_rfl) rfl #[.pointer (some ⟨g391, 0, none⟩)] rfl (by (try simp only [List.map_toArray, List.map_cons, List.map_nil]); first | done | rfl | (simp only [List.length_drop, List.length_take]; rfl)) ?_; (with_reducible refine (codec_Reader_Kind.calls kj12 g391 x392000_2 x392001_2 x392002_2 t393 t394 t395 t396 w _ ?side99  ?side1 ?side2 A17.out).mono ?_); (case side1 => repeat (first | (with_reducible first | exact HI391.out | apply IsS78.alloc | apply IsS78.drewN | apply IsS78.drew | apply IsS78.set_0 | apply IsS78.set_1 | apply IsS78.set_2) | exact HI391.out)); (case side2 => repeat (first | (with_reducible first | exact HB.out | apply below_alloc | apply pw_below_drewN | apply below_drew1 | refine below_set ?_ (IsS78.ge HI391.out)) | exact HB.out)); (case side99 => exact HG.out); rintro e w24 ⟨rfl, hi, hb, hk⟩; refine ⟨_, rfl, ?_⟩; have n0_ := Aside0.mk (hb); have n1_ := Aside0.mk (hi); clear HB; clear HI391; have HB := n0_; have HI391 := n1_; clear n0_ n1_; (try clear hb); (try clear hb2); (try clear hk); (try clear hi)) | (go_at_call 23; (with_reducible refine (codec_Reader_Offset.calls g391 t394 t395 t396 t397 t398 t399 t400 w _ ?side99  ?side1 ?side2 A19.out).mono ?_); (case side1 => repeat (first | (with_reducible first | exact HI391.out | apply IsS78.alloc | apply IsS78.drewN | apply IsS78.drew | apply IsS78.set_0 | apply IsS78.set_1 | apply IsS78.set_2) | exact HI391.out)); (case side2 => repeat (first | (with_reducible first | exact HB.out | apply below_alloc | apply pw_below_drewN | apply below_drew1 | refine below_set ?_ (IsS78.ge HI391.out)) | exact HB.out)); (case side99 => exact HG.out); rintro e w25 ⟨rfl, hi, hb, hk⟩; have n0_ := Aside0.mk (hb); have n1_ := Aside0.mk (hi); clear HB; clear HI391; have HB := n0_; have HI391 := n1_; clear n0_ n1_; (try clear hb); (try clear hb2); (try clear hk); (try clear hi)) | (go_at_call 24; (with_reducible refine (codec_Reader_Err.calls g391 t398 t399 t400 t401 t402 t403 t404 w _ ?side99  ?side1 ?side2 A21.out).mono ?_); (case side1 => repeat (first | (with_reducible first | exact HI391.out | apply IsS78.alloc | apply IsS78.drewN | apply IsS78.drew | apply IsS78.set_0 | apply IsS78.set_1 | apply IsS78.set_2) | exact HI391.out)); (case side2 => repeat (first | (with_reducible first | exact HB.out | apply below_alloc | apply pw_below_drewN | apply below_drew1 | refine below_set ?_ (IsS78.ge HI391.out)) | exact HB.out)); (case side99 => exact HG.out); rintro e w26 ⟨rfl, hi, hb, hk⟩; have n0_ := Aside0.mk (hb); have n1_ := Aside0.mk (hi); clear HB; clear HI391; have HB := n0_; have HI391 := n1_; clear n0_ n1_; (try clear hb); (try clear hb2); (try clear hk); (try clear hi)) | (go_at_call 25; (with_reducible refine (codec_Reader_End.calls g391 t402 t403 t404 t405 t406 t407 t408 w _ ?side99  ?side1 ?side2 A23.out).mono ?_); (case side1 => repeat (first | (with_reducible first | exact HI391.out | apply IsS78.alloc | apply IsS78.drewN | apply IsS78.drew | apply IsS78.set_0 | apply IsS78.set_1 | apply IsS78.set_2) | exact HI391.out)); (case side2 => repeat (first | (with_reducible first | exact HB.out | apply below_alloc | apply pw_below_drewN | apply below_drew1 | refine below_set ?_ (IsS78.ge HI391.out)) | exact HB.out)); (case side99 => exact HG.out); rintro e w27 ⟨rfl, hi, hb, hk⟩; have n0_ := Aside0.mk (hb); have n1_ := Aside0.mk (hi); clear HB; clear HI391; have HB := n0_; have HI391 := n1_; clear n0_ n1_; (try clear hb); (try clear hb2); (try clear hk); (try clear hi)))
                            go_meet
                            case rel => exact ⟨_, ((t405 != x10_12)), (t406), (t407), (t408), (by first | rfl | (simp; done) | (simp [*]; done)), H', ⟨by have := HJ4.out; have := HK2.out; have := HJ12.out; first | omega | exact Nat.le_refl _⟩, ⟨by repeat (first | (with_reducible first | exact HI391.out | apply IsS78.alloc | apply IsS78.drewN | apply IsS78.drew | apply IsS78.set_0 | apply IsS78.set_1 | apply IsS78.set_2) | exact HI391.out)⟩, ⟨by repeat (first | (with_reducible first | exact HB.out | apply below_alloc | apply pw_below_drewN | apply below_drew1 | refine below_set ?_ (IsS78.ge HI391.out)) | exact HB.out)⟩⟩
                          · rw [if_neg c22] at H
                            have c22b0 : (t401 == x7_2) = false := beq_eq_false_iff_ne.mpr c22
                            have c22b1 : (t401 != x7_2) = true := bne_iff_ne.mpr c22
                            have H' := Aside0.mk H
                            clear H
                            go_wp2_with (first | ((with_reducible refine gate_callee (f := 22) rfl ?_); refine goesL_ (some 45) rfl rfl Tryd.func22 (by kernel_rfl) rfl #[.pointer (some ⟨g391, 0, none⟩)] rfl (by (try simp only [List.map_toArray, List.map_cons, List.map_nil]); first | done | rfl | (simp only [List.length_drop, List.length_take]; rfl)) ?_; (with_reducible refine (codec_Reader_Kind.calls kj12 g391 x392000_2 x392001_2 x392002_2 t393 t394 t395 t396 w _ ?side99  ?side1 ?side2 A17.out).mono ?_); (case side1 => repeat (first | (with_reducible first | exact HI391.out | apply IsS78.alloc | apply IsS78.drewN | apply IsS78.drew | apply IsS78.set_0 | apply IsS78.set_1 | apply IsS78.set_2) | exact HI391.out)); (case side2 => repeat (first | (with_reducible first | exact HB.out | apply below_alloc | apply pw_below_drewN | apply below_drew1 | refine below_set ?_ (IsS78.ge HI391.out)) | exact HB.out)); (case side99 => exact HG.out); rintro e w28 ⟨rfl, hi, hb, hk⟩; refine ⟨_, rfl, ?_⟩; have n0_ := Aside0.mk (hb); have n1_ := Aside0.mk (hi); clear HB; clear HI391; have HB := n0_; have HI391 := n1_; clear n0_ n1_; (try clear hb); (try clear hb2); (try clear hk); (try clear hi)) | (go_at_call 23; (with_reducible refine (codec_Reader_Offset.calls g391 t394 t395 t396 t397 t398 t399 t400 w _ ?side99  ?side1 ?side2 A19.out).mono ?_); (case side1 => repeat (first | (with_reducible first | exact HI391.out | apply IsS78.alloc | apply IsS78.drewN | apply IsS78.drew | apply IsS78.set_0 | apply IsS78.set_1 | apply IsS78.set_2) | exact HI391.out)); (case side2 => repeat (first | (with_reducible first | exact HB.out | apply below_alloc | apply pw_below_drewN | apply below_drew1 | refine below_set ?_ (IsS78.ge HI391.out)) | exact HB.out)); (case side99 => exact HG.out); rintro e w29 ⟨rfl, hi, hb, hk⟩; have n0_ := Aside0.mk (hb); have n1_ := Aside0.mk (hi); clear HB; clear HI391; have HB := n0_; have HI391 := n1_; clear n0_ n1_; (try clear hb); (try clear hb2); (try clear hk); (try clear hi)) | (go_at_call 24; (with_reducible refine (codec_Reader_Err.calls g391 t398 t399 t400 t401 t402 t403 t404 w _ ?side99  ?side1 ?side2 A21.out).mono ?_); (case side1 => repeat (first | (with_reducible first | exact HI391.out | apply IsS78.alloc | apply IsS78.drewN | apply IsS78.drew | apply IsS78.set_0 | apply IsS78.set_1 | apply IsS78.set_2) | exact HI391.out)); (case side2 => repeat (first | (with_reducible first | exact HB.out | apply below_alloc | apply pw_below_drewN | apply below_drew1 | refine below_set ?_ (IsS78.ge HI391.out)) | exact HB.out)); (case side99 => exact HG.out); rintro e w30 ⟨rfl, hi, hb, hk⟩; have n0_ := Aside0.mk (hb); have n1_ := Aside0.mk (hi); clear HB; clear HI391; have HB := n0_; have HI391 := n1_; clear n0_ n1_; (try clear hb); (try clear hb2); (try clear hk); (try clear hi)))
                            go_meet
                            case rel => exact ⟨_, (true), (t402), (t403), (t404), (by first | rfl | (simp; done) | (simp [*]; done)), H', ⟨by have := HJ4.out; have := HK2.out; have := HJ12.out; first | omega | exact Nat.le_refl _⟩, ⟨by repeat (first | (with_reducible first | exact HI391.out | apply IsS78.alloc | apply IsS78.drewN | apply IsS78.drew | apply IsS78.set_0 | apply IsS78.set_1 | apply IsS78.set_2) | exact HI391.out)⟩, ⟨by repeat (first | (with_reducible first | exact HB.out | apply below_alloc | apply pw_below_drewN | apply below_drew1 | refine below_set ?_ (IsS78.ge HI391.out)) | exact HB.out)⟩⟩
                        · rw [if_neg c20] at H
                          have c20b0 : (t397 == x6_2) = false := beq_eq_false_iff_ne.mpr c20
                          have c20b1 : (t397 != x6_2) = true := bne_iff_ne.mpr c20
                          have H' := Aside0.mk H
                          clear H
                          go_wp2_with (first | ((with_reducible refine gate_callee (f := 22) rfl ?_); refine goesL_ (some 45) rfl rfl Tryd.func22 (by kernel_rfl) rfl #[.pointer (some ⟨g391, 0, none⟩)] rfl (by (try simp only [List.map_toArray, List.map_cons, List.map_nil]); first | done | rfl | (simp only [List.length_drop, List.length_take]; rfl)) ?_; (with_reducible refine (codec_Reader_Kind.calls kj12 g391 x392000_2 x392001_2 x392002_2 t393 t394 t395 t396 w _ ?side99  ?side1 ?side2 A17.out).mono ?_); (case side1 => repeat (first | (with_reducible first | exact HI391.out | apply IsS78.alloc | apply IsS78.drewN | apply IsS78.drew | apply IsS78.set_0 | apply IsS78.set_1 | apply IsS78.set_2) | exact HI391.out)); (case side2 => repeat (first | (with_reducible first | exact HB.out | apply below_alloc | apply pw_below_drewN | apply below_drew1 | refine below_set ?_ (IsS78.ge HI391.out)) | exact HB.out)); (case side99 => exact HG.out); rintro e w31 ⟨rfl, hi, hb, hk⟩; refine ⟨_, rfl, ?_⟩; have n0_ := Aside0.mk (hb); have n1_ := Aside0.mk (hi); clear HB; clear HI391; have HB := n0_; have HI391 := n1_; clear n0_ n1_; (try clear hb); (try clear hb2); (try clear hk); (try clear hi)) | (go_at_call 23; (with_reducible refine (codec_Reader_Offset.calls g391 t394 t395 t396 t397 t398 t399 t400 w _ ?side99  ?side1 ?side2 A19.out).mono ?_); (case side1 => repeat (first | (with_reducible first | exact HI391.out | apply IsS78.alloc | apply IsS78.drewN | apply IsS78.drew | apply IsS78.set_0 | apply IsS78.set_1 | apply IsS78.set_2) | exact HI391.out)); (case side2 => repeat (first | (with_reducible first | exact HB.out | apply below_alloc | apply pw_below_drewN | apply below_drew1 | refine below_set ?_ (IsS78.ge HI391.out)) | exact HB.out)); (case side99 => exact HG.out); rintro e w32 ⟨rfl, hi, hb, hk⟩; have n0_ := Aside0.mk (hb); have n1_ := Aside0.mk (hi); clear HB; clear HI391; have HB := n0_; have HI391 := n1_; clear n0_ n1_; (try clear hb); (try clear hb2); (try clear hk); (try clear hi)))
                          go_meet
                          case rel => exact ⟨_, (true), (t398), (t399), (t400), (by first | rfl | (simp; done) | (simp [*]; done)), H', ⟨by have := HJ4.out; have := HK2.out; have := HJ12.out; first | omega | exact Nat.le_refl _⟩, ⟨by repeat (first | (with_reducible first | exact HI391.out | apply IsS78.alloc | apply IsS78.drewN | apply IsS78.drew | apply IsS78.set_0 | apply IsS78.set_1 | apply IsS78.set_2) | exact HI391.out)⟩, ⟨by repeat (first | (with_reducible first | exact HB.out | apply below_alloc | apply pw_below_drewN | apply below_drew1 | refine below_set ?_ (IsS78.ge HI391.out)) | exact HB.out)⟩⟩
                      · rw [if_neg c18] at H
                        have c18b0 : (t393 == x9_12) = false := beq_eq_false_iff_ne.mpr c18
                        have c18b1 : (t393 != x9_12) = true := bne_iff_ne.mpr c18
                        (first | rw [c18b0] | (simp only [i64_w, i32_w]; rw [c18b0]) | skip)
                        have H' := Aside0.mk H
                        clear H
                        go_wp2_with (first | ((with_reducible refine gate_callee (f := 22) rfl ?_); refine goesL_ (some 45) rfl rfl Tryd.func22 (by kernel_rfl) rfl #[.pointer (some ⟨g391, 0, none⟩)] rfl (by (try simp only [List.map_toArray, List.map_cons, List.map_nil]); first | done | rfl | (simp only [List.length_drop, List.length_take]; rfl)) ?_; (with_reducible refine (codec_Reader_Kind.calls kj12 g391 x392000_2 x392001_2 x392002_2 t393 t394 t395 t396 w _ ?side99  ?side1 ?side2 A17.out).mono ?_); (case side1 => repeat (first | (with_reducible first | exact HI391.out | apply IsS78.alloc | apply IsS78.drewN | apply IsS78.drew | apply IsS78.set_0 | apply IsS78.set_1 | apply IsS78.set_2) | exact HI391.out)); (case side2 => repeat (first | (with_reducible first | exact HB.out | apply below_alloc | apply pw_below_drewN | apply below_drew1 | refine below_set ?_ (IsS78.ge HI391.out)) | exact HB.out)); (case side99 => exact HG.out); rintro e w33 ⟨rfl, hi, hb, hk⟩; refine ⟨_, rfl, ?_⟩; have n0_ := Aside0.mk (hb); have n1_ := Aside0.mk (hi); clear HB; clear HI391; have HB := n0_; have HI391 := n1_; clear n0_ n1_; (try clear hb); (try clear hb2); (try clear hk); (try clear hi)))
                        go_meet
                        case rel => exact ⟨_, (true), (t394), (t395), (t396), (by first | rfl | (simp; done) | (simp [*]; done)), H', ⟨by have := HJ4.out; have := HK2.out; have := HJ12.out; first | omega | exact Nat.le_refl _⟩, ⟨by repeat (first | (with_reducible first | exact HI391.out | apply IsS78.alloc | apply IsS78.drewN | apply IsS78.drew | apply IsS78.set_0 | apply IsS78.set_1 | apply IsS78.set_2) | exact HI391.out)⟩, ⟨by repeat (first | (with_reducible first | exact HB.out | apply below_alloc | apply pw_below_drewN | apply below_drew1 | refine below_set ?_ (IsS78.ge HI391.out)) | exact HB.out)⟩⟩
                    case rest =>
                      clear HC16
                      try clear c1
                      try clear c2
                      try clear p2
                      try clear c4
                      try clear c7
                      try clear c7b0
                      try clear c7b1
                      try clear c8
                      try clear c9
                      try clear c11
                      try clear c11b0
                      try clear c14
                      try clear c14b0
                      try clear c14b1
                      try clear c15
                      try clear c15b0
                      try clear c18
                      try clear c18b0
                      try clear c18b1
                      try clear c20
                      try clear c20b0
                      try clear c20b1
                      try clear c21
                      try clear c22
                      try clear c22b0
                      try clear c22b1
                      try clear p2
                      obtain ⟨kq, x65_15, x392000_15, x392001_15, x392002_15, rfl, HA, HJ15, HI391, HB⟩ := hcut
                      cases kq with
                      | zero => exact absurd HA.out (by simp [plenumlaw02_CodecRaw.j3])
                      | succ kj15 =>
                        have H := HA.out
                        clear HA
                        simp only [plenumlaw02_CodecRaw.j3] at H
                        by_cases c34 : x65_15 = true
                        · subst c34
                          have H1 : (none) = some r := by rw [if_pos rfl] at H; exact H
                          clear H
                          have H := H1
                          clear H1
                          exact absurd H (by simp)
                        · replace c34 := Bool.eq_false_iff.mpr c34
                          subst c34
                          have H1 : (if x8_2 = (l1.length : Int) then (some true) else (if x7_2 = 0 then (if 0 ≤ x8_2 then (if x8_2 < (l1.length : Int) then ((plenumlaw02_step.f kj15 x392000_15 x392001_15 x392002_15 a0 x6_2 (rd l1 x8_2)).bind fun bt430 => (if bt430.2.2.1 = true then (if bt430.2.1 = true then (plenumlaw02_CodecRaw.l0 kj15 a0 l1 bt430.1 x7_2 (wrap64 (x8_2 + 1)) bt430.2.2.2.1 bt430.2.2.2.2.1 bt430.2.2.2.2.2) else (plenumlaw02_CodecRaw.l0 kj15 a0 l1 bt430.1 2 (wrap64 (x8_2 + 1)) bt430.2.2.2.1 bt430.2.2.2.2.1 bt430.2.2.2.2.2)) else (none))) else (none)) else (none)) else ((codec_Reader_Unsigned.f kj15 x392000_15 x392001_15 x392002_15).bind fun bt409 => (if bt409.1 = 0 then ((codec_Reader_Signed.f kj15 bt409.2.1 bt409.2.2.1 bt409.2.2.2).bind fun bt413 => (if bt413.1 = 0 then ((codec_Reader_Text.f kj15 bt413.2.1 bt413.2.2.1 bt413.2.2.2).bind fun bt417 => (if bt417.1.toList = ([] : List UInt8) then ((codec_Reader_List.f kj15 bt417.2.1 bt417.2.2.1 bt417.2.2.2).bind fun bt421 => (if bt421.1 = 0 then ((codec_Reader_Bool.f kj15 bt421.2.1 bt421.2.2.1 bt421.2.2.2).bind fun bt425 => (if bt425.1 = true then (none) else (plenumlaw02_CodecRaw.l0 kj15 a0 l1 x6_2 x7_2 (wrap64 (x8_2 + 1)) bt425.2.1 bt425.2.2.1 bt425.2.2.2))) else (none))) else (none))) else (none))) else (none))))) = some r := by rw [if_neg (show ¬ (false = true) by decide)] at H; exact H
                          clear H
                          have H := H1
                          clear H1
                          by_cases c35 : x8_2 = (l1.length : Int)
                          · rw [if_pos c35] at H
                            have c35b0 : (x8_2 == (l1.length : Int)) = true := beq_iff_eq.mpr c35
                            have c35b1 : (x8_2 != (l1.length : Int)) = false := bne_eq_false_iff_eq.mpr c35
                            clear c35
                            obtain rfl := Option.some.inj H
                            go_wp2
                            go_ret
                            exact ⟨by first | rfl | (simp [errW_none, errW_some] <;> rfl) | (simp [*, errW_none, errW_some] <;> rfl), by repeat (first | (with_reducible first | exact HB.out | apply below_alloc | apply pw_below_drewN | apply below_drew1 | refine below_set ?_ (IsS78.ge HI391.out)) | exact HB.out)⟩
                          · rw [if_neg c35] at H
                            have c35b0 : (x8_2 == (l1.length : Int)) = false := beq_eq_false_iff_ne.mpr c35
                            have c35b1 : (x8_2 != (l1.length : Int)) = true := bne_iff_ne.mpr c35
                            by_cases c36 : x7_2 = 0
                            · rw [if_pos c36] at H
                              have c36b0 : (x7_2 == 0) = true := beq_iff_eq.mpr c36
                              have c36b1 : (x7_2 != 0) = false := bne_eq_false_iff_eq.mpr c36
                              clear c36
                              by_cases c37 : 0 ≤ x8_2
                              · rw [if_pos c37] at H
                                have c37b0 : decide (0 ≤ x8_2) = true := decide_eq_true c37
                                clear c37
                                by_cases c38 : x8_2 < (l1.length : Int)
                                · rw [if_pos c38] at H
                                  have c38b0 : decide (x8_2 < (l1.length : Int)) = true := decide_eq_true c38
                                  clear c38
                                  replace H := Option.bind_eq_some_iff.mp H
                                  obtain ⟨⟨t430, t431, t432, t433, t434, t435⟩, A390, H⟩ := H
                                  replace H : (if t432 = true then (if t431 = true then (plenumlaw02_CodecRaw.l0 kj15 a0 l1 t430 x7_2 (wrap64 (x8_2 + 1)) t433 t434 t435) else (plenumlaw02_CodecRaw.l0 kj15 a0 l1 t430 2 (wrap64 (x8_2 + 1)) t433 t434 t435)) else (none)) = some r := H
                                  have A39 := Aside0.mk A390
                                  clear A390
                                  by_cases c40 : t432 = true
                                  · subst c40
                                    have H1 : (if t431 = true then (plenumlaw02_CodecRaw.l0 kj15 a0 l1 t430 x7_2 (wrap64 (x8_2 + 1)) t433 t434 t435) else (plenumlaw02_CodecRaw.l0 kj15 a0 l1 t430 2 (wrap64 (x8_2 + 1)) t433 t434 t435)) = some r := by rw [if_pos rfl] at H; exact H
                                    clear H
                                    have H := H1
                                    clear H1
                                    by_cases c41 : t431 = true
                                    · subst c41
                                      have H1 : (plenumlaw02_CodecRaw.l0 kj15 a0 l1 t430 x7_2 (wrap64 (x8_2 + 1)) t433 t434 t435) = some r := by rw [if_pos rfl] at H; exact H
                                      clear H
                                      have H := H1
                                      clear H1
                                      have H' := Aside0.mk H
                                      clear H
                                      have p429 : 0 ≤ (x8_2 : Int) := of_decide_eq_true (by first | (with_reducible assumption) | assumption)
                                      have q429 : x8_2 < (l1.length : Int) := of_decide_eq_true (by first | (with_reducible assumption) | assumption)
                                      obtain ⟨ad429, e429, hx429_0⟩ := Kd.at_int HR1.out x8_2 p429 q429
                                      cases e429
                                      replace hx429_0 := (HB.out.cell (World.block_lt_of_cell? w _ hx429_0)).trans hx429_0
                                      replace p429 := eq_true p429
                                      replace q429 := eq_true q429
                                      go_wp2_with (first | ((with_reducible refine gate_callee (f := 31) rfl ?_); refine goesL_ (some 102) rfl rfl Tryd.func31 (by kernel_rfl) rfl #[.pointer (some ⟨g391, 0, none⟩), .string a0, .int .i64 x6_2, .int .i64 (rd l1 x8_2)] rfl (by (try simp only [List.map_toArray, List.map_cons, List.map_nil]); first | done | rfl | (simp only [List.length_drop, List.length_take]; rfl)) ?_; (with_reducible refine (plenumlaw02_step.calls kj15 g391 x392000_15 x392001_15 x392002_15 a0 x6_2 (rd l1 x8_2) t430 true true t433 t434 t435 w _ ?side99  ?side1 ?side2 A39.out).mono ?_); (case side1 => repeat (first | (with_reducible first | exact HI391.out | apply IsS78.alloc | apply IsS78.drewN | apply IsS78.drew | apply IsS78.set_0 | apply IsS78.set_1 | apply IsS78.set_2) | exact HI391.out)); (case side2 => repeat (first | (with_reducible first | exact HB.out | apply below_alloc | apply pw_below_drewN | apply below_drew1 | refine below_set ?_ (IsS78.ge HI391.out)) | exact HB.out)); (case side99 => exact HG.out); rintro e w42 ⟨rfl, hi, hb, hk⟩; refine ⟨_, rfl, ?_⟩; have n0_ := Aside0.mk (hb); have n1_ := Aside0.mk (hi); clear HB; clear HI391; have HB := n0_; have HI391 := n1_; clear n0_ n1_; (try clear hb); (try clear hb2); (try clear hk); (try clear hi)))
                                      go_roundg kj15
                                      case measure => have := HJ4.out; have := HK2.out; have := HJ12.out; have := HJ15.out; omega
                                      case rel => exact ⟨(t430), (x7_2), (wrap64 (x8_2 + 1)), (t433), (t434), (t435), (by first | rfl | (simp; done) | (simp [*]; done)), (by first | rfl | (simp; done) | (simp [*]; done)), (by first | rfl | (simp; done) | (simp [*]; done)), H', ⟨by have := HJ4.out; have := HK2.out; have := HJ12.out; have := HJ15.out; omega⟩, ⟨by repeat (first | (with_reducible first | exact HI391.out | apply IsS78.alloc | apply IsS78.drewN | apply IsS78.drew | apply IsS78.set_0 | apply IsS78.set_1 | apply IsS78.set_2) | exact HI391.out)⟩, ⟨by repeat (first | (with_reducible first | exact HB.out | apply below_alloc | apply pw_below_drewN | apply below_drew1 | refine below_set ?_ (IsS78.ge HI391.out)) | exact HB.out)⟩⟩
                                    · replace c41 := Bool.eq_false_iff.mpr c41
                                      subst c41
                                      have H1 : (plenumlaw02_CodecRaw.l0 kj15 a0 l1 t430 2 (wrap64 (x8_2 + 1)) t433 t434 t435) = some r := by rw [if_neg (show ¬ (false = true) by decide)] at H; exact H
                                      clear H
                                      have H := H1
                                      clear H1
                                      have H' := Aside0.mk H
                                      clear H
                                      have p429 : 0 ≤ (x8_2 : Int) := of_decide_eq_true (by first | (with_reducible assumption) | assumption)
                                      have q429 : x8_2 < (l1.length : Int) := of_decide_eq_true (by first | (with_reducible assumption) | assumption)
                                      obtain ⟨ad429, e429, hx429_0⟩ := Kd.at_int HR1.out x8_2 p429 q429
                                      cases e429
                                      replace hx429_0 := (HB.out.cell (World.block_lt_of_cell? w _ hx429_0)).trans hx429_0
                                      replace p429 := eq_true p429
                                      replace q429 := eq_true q429
                                      go_wp2_with (first | ((with_reducible refine gate_callee (f := 31) rfl ?_); refine goesL_ (some 102) rfl rfl Tryd.func31 (by kernel_rfl) rfl #[.pointer (some ⟨g391, 0, none⟩), .string a0, .int .i64 x6_2, .int .i64 (rd l1 x8_2)] rfl (by (try simp only [List.map_toArray, List.map_cons, List.map_nil]); first | done | rfl | (simp only [List.length_drop, List.length_take]; rfl)) ?_; (with_reducible refine (plenumlaw02_step.calls kj15 g391 x392000_15 x392001_15 x392002_15 a0 x6_2 (rd l1 x8_2) t430 false true t433 t434 t435 w _ ?side99  ?side1 ?side2 A39.out).mono ?_); (case side1 => repeat (first | (with_reducible first | exact HI391.out | apply IsS78.alloc | apply IsS78.drewN | apply IsS78.drew | apply IsS78.set_0 | apply IsS78.set_1 | apply IsS78.set_2) | exact HI391.out)); (case side2 => repeat (first | (with_reducible first | exact HB.out | apply below_alloc | apply pw_below_drewN | apply below_drew1 | refine below_set ?_ (IsS78.ge HI391.out)) | exact HB.out)); (case side99 => exact HG.out); rintro e w43 ⟨rfl, hi, hb, hk⟩; refine ⟨_, rfl, ?_⟩; have n0_ := Aside0.mk (hb); have n1_ := Aside0.mk (hi); clear HB; clear HI391; have HB := n0_; have HI391 := n1_; clear n0_ n1_; (try clear hb); (try clear hb2); (try clear hk); (try clear hi)))
                                      go_roundg kj15
                                      case measure => have := HJ4.out; have := HK2.out; have := HJ12.out; have := HJ15.out; omega
                                      case rel => exact ⟨(t430), (2), (wrap64 (x8_2 + 1)), (t433), (t434), (t435), (by first | rfl | (simp; done) | (simp [*]; done)), (by first | rfl | (simp; done) | (simp [*]; done)), (by first | rfl | (simp; done) | (simp [*]; done)), H', ⟨by have := HJ4.out; have := HK2.out; have := HJ12.out; have := HJ15.out; omega⟩, ⟨by repeat (first | (with_reducible first | exact HI391.out | apply IsS78.alloc | apply IsS78.drewN | apply IsS78.drew | apply IsS78.set_0 | apply IsS78.set_1 | apply IsS78.set_2) | exact HI391.out)⟩, ⟨by repeat (first | (with_reducible first | exact HB.out | apply below_alloc | apply pw_below_drewN | apply below_drew1 | refine below_set ?_ (IsS78.ge HI391.out)) | exact HB.out)⟩⟩
                                  · replace c40 := Bool.eq_false_iff.mpr c40
                                    subst c40
                                    have H1 : (none) = some r := by rw [if_neg (show ¬ (false = true) by decide)] at H; exact H
                                    clear H
                                    have H := H1
                                    clear H1
                                    exact absurd H (by simp)
                                · rw [if_neg c38] at H
                                  exact absurd H (by simp)
                              · rw [if_neg c37] at H
                                exact absurd H (by simp)
                            · rw [if_neg c36] at H
                              have c36b0 : (x7_2 == 0) = false := beq_eq_false_iff_ne.mpr c36
                              have c36b1 : (x7_2 != 0) = true := bne_iff_ne.mpr c36
                              replace H := Option.bind_eq_some_iff.mp H
                              obtain ⟨⟨t409, t410, t411, t412⟩, A440, H⟩ := H
                              replace H : (if t409 = 0 then ((codec_Reader_Signed.f kj15 t410 t411 t412).bind fun bt413 => (if bt413.1 = 0 then ((codec_Reader_Text.f kj15 bt413.2.1 bt413.2.2.1 bt413.2.2.2).bind fun bt417 => (if bt417.1.toList = ([] : List UInt8) then ((codec_Reader_List.f kj15 bt417.2.1 bt417.2.2.1 bt417.2.2.2).bind fun bt421 => (if bt421.1 = 0 then ((codec_Reader_Bool.f kj15 bt421.2.1 bt421.2.2.1 bt421.2.2.2).bind fun bt425 => (if bt425.1 = true then (none) else (plenumlaw02_CodecRaw.l0 kj15 a0 l1 x6_2 x7_2 (wrap64 (x8_2 + 1)) bt425.2.1 bt425.2.2.1 bt425.2.2.2))) else (none))) else (none))) else (none))) else (none)) = some r := H
                              have A44 := Aside0.mk A440
                              clear A440
                              by_cases c45 : t409 = 0
                              · rw [if_pos c45] at H
                                have c45b0 : (t409 == 0) = true := beq_iff_eq.mpr c45
                                have c45b1 : (t409 != 0) = false := bne_eq_false_iff_eq.mpr c45
                                clear c45
                                replace H := Option.bind_eq_some_iff.mp H
                                obtain ⟨⟨t413, t414, t415, t416⟩, A460, H⟩ := H
                                replace H : (if t413 = 0 then ((codec_Reader_Text.f kj15 t414 t415 t416).bind fun bt417 => (if bt417.1.toList = ([] : List UInt8) then ((codec_Reader_List.f kj15 bt417.2.1 bt417.2.2.1 bt417.2.2.2).bind fun bt421 => (if bt421.1 = 0 then ((codec_Reader_Bool.f kj15 bt421.2.1 bt421.2.2.1 bt421.2.2.2).bind fun bt425 => (if bt425.1 = true then (none) else (plenumlaw02_CodecRaw.l0 kj15 a0 l1 x6_2 x7_2 (wrap64 (x8_2 + 1)) bt425.2.1 bt425.2.2.1 bt425.2.2.2))) else (none))) else (none))) else (none)) = some r := H
                                have A46 := Aside0.mk A460
                                clear A460
                                by_cases c47 : t413 = 0
                                · rw [if_pos c47] at H
                                  have c47b0 : (t413 == 0) = true := beq_iff_eq.mpr c47
                                  have c47b1 : (t413 != 0) = false := bne_eq_false_iff_eq.mpr c47
                                  clear c47
                                  replace H := Option.bind_eq_some_iff.mp H
                                  obtain ⟨⟨t417, t418, t419, t420⟩, A480, H⟩ := H
                                  replace H : (if t417.toList = ([] : List UInt8) then ((codec_Reader_List.f kj15 t418 t419 t420).bind fun bt421 => (if bt421.1 = 0 then ((codec_Reader_Bool.f kj15 bt421.2.1 bt421.2.2.1 bt421.2.2.2).bind fun bt425 => (if bt425.1 = true then (none) else (plenumlaw02_CodecRaw.l0 kj15 a0 l1 x6_2 x7_2 (wrap64 (x8_2 + 1)) bt425.2.1 bt425.2.2.1 bt425.2.2.2))) else (none))) else (none)) = some r := H
                                  have A48 := Aside0.mk A480
                                  clear A480
                                  by_cases c49 : t417.toList = ([] : List UInt8)
                                  · rw [if_pos c49] at H
                                    have c49b0 : (t417.toList == ([] : List UInt8)) = true := beq_iff_eq.mpr c49
                                    have c49b1 : (t417.toList != ([] : List UInt8)) = false := bne_eq_false_iff_eq.mpr c49
                                    clear c49
                                    replace H := Option.bind_eq_some_iff.mp H
                                    obtain ⟨⟨t421, t422, t423, t424⟩, A500, H⟩ := H
                                    replace H : (if t421 = 0 then ((codec_Reader_Bool.f kj15 t422 t423 t424).bind fun bt425 => (if bt425.1 = true then (none) else (plenumlaw02_CodecRaw.l0 kj15 a0 l1 x6_2 x7_2 (wrap64 (x8_2 + 1)) bt425.2.1 bt425.2.2.1 bt425.2.2.2))) else (none)) = some r := H
                                    have A50 := Aside0.mk A500
                                    clear A500
                                    by_cases c51 : t421 = 0
                                    · rw [if_pos c51] at H
                                      have c51b0 : (t421 == 0) = true := beq_iff_eq.mpr c51
                                      have c51b1 : (t421 != 0) = false := bne_eq_false_iff_eq.mpr c51
                                      clear c51
                                      replace H := Option.bind_eq_some_iff.mp H
                                      obtain ⟨⟨t425, t426, t427, t428⟩, A520, H⟩ := H
                                      replace H : (if t425 = true then (none) else (plenumlaw02_CodecRaw.l0 kj15 a0 l1 x6_2 x7_2 (wrap64 (x8_2 + 1)) t426 t427 t428)) = some r := H
                                      have A52 := Aside0.mk A520
                                      clear A520
                                      by_cases c53 : t425 = true
                                      · subst c53
                                        have H1 : (none) = some r := by rw [if_pos rfl] at H; exact H
                                        clear H
                                        have H := H1
                                        clear H1
                                        exact absurd H (by simp)
                                      · replace c53 := Bool.eq_false_iff.mpr c53
                                        subst c53
                                        have H1 : (plenumlaw02_CodecRaw.l0 kj15 a0 l1 x6_2 x7_2 (wrap64 (x8_2 + 1)) t426 t427 t428) = some r := by rw [if_neg (show ¬ (false = true) by decide)] at H; exact H
                                        clear H
                                        have H := H1
                                        clear H1
                                        have H' := Aside0.mk H
                                        clear H
                                        go_wp2_with (first | ((with_reducible refine gate_callee (f := 26) rfl ?_); refine goesL_ (some 73) rfl rfl Tryd.func26 (by kernel_rfl) rfl #[.pointer (some ⟨g391, 0, none⟩)] rfl (by (try simp only [List.map_toArray, List.map_cons, List.map_nil]); first | done | rfl | (simp only [List.length_drop, List.length_take]; rfl)) ?_; (with_reducible refine (codec_Reader_Unsigned.calls kj15 g391 x392000_15 x392001_15 x392002_15 t409 t410 t411 t412 w _ ?side99  ?side1 ?side2 A44.out).mono ?_); (case side1 => repeat (first | (with_reducible first | exact HI391.out | apply IsS78.alloc | apply IsS78.drewN | apply IsS78.drew | apply IsS78.set_0 | apply IsS78.set_1 | apply IsS78.set_2) | exact HI391.out)); (case side2 => repeat (first | (with_reducible first | exact HB.out | apply below_alloc | apply pw_below_drewN | apply below_drew1 | refine below_set ?_ (IsS78.ge HI391.out)) | exact HB.out)); (case side99 => exact HG.out); rintro e w54 ⟨rfl, hi, hb, hk⟩; refine ⟨_, rfl, ?_⟩; have n0_ := Aside0.mk (hb); have n1_ := Aside0.mk (hi); clear HB; clear HI391; have HB := n0_; have HI391 := n1_; clear n0_ n1_; (try clear hb); (try clear hb2); (try clear hk); (try clear hi)) | (go_at_call 27; (with_reducible refine (codec_Reader_Signed.calls kj15 g391 t410 t411 t412 t413 t414 t415 t416 w _ ?side99  ?side1 ?side2 A46.out).mono ?_); (case side1 => repeat (first | (with_reducible first | exact HI391.out | apply IsS78.alloc | apply IsS78.drewN | apply IsS78.drew | apply IsS78.set_0 | apply IsS78.set_1 | apply IsS78.set_2) | exact HI391.out)); (case side2 => repeat (first | (with_reducible first | exact HB.out | apply below_alloc | apply pw_below_drewN | apply below_drew1 | refine below_set ?_ (IsS78.ge HI391.out)) | exact HB.out)); (case side99 => exact HG.out); rintro e w55 ⟨rfl, hi, hb, hk⟩; have n0_ := Aside0.mk (hb); have n1_ := Aside0.mk (hi); clear HB; clear HI391; have HB := n0_; have HI391 := n1_; clear n0_ n1_; (try clear hb); (try clear hb2); (try clear hk); (try clear hi)) | (go_at_call 28; (with_reducible refine (codec_Reader_Text.calls kj15 g391 t414 t415 t416 t417 t418 t419 t420 w _ ?side99  ?side1 ?side2 A48.out).mono ?_); (case side1 => repeat (first | (with_reducible first | exact HI391.out | apply IsS78.alloc | apply IsS78.drewN | apply IsS78.drew | apply IsS78.set_0 | apply IsS78.set_1 | apply IsS78.set_2) | exact HI391.out)); (case side2 => repeat (first | (with_reducible first | exact HB.out | apply below_alloc | apply pw_below_drewN | apply below_drew1 | refine below_set ?_ (IsS78.ge HI391.out)) | exact HB.out)); (case side99 => exact HG.out); rintro e w56 ⟨rfl, hi, hb, hk⟩; have n0_ := Aside0.mk (hb); have n1_ := Aside0.mk (hi); clear HB; clear HI391; have HB := n0_; have HI391 := n1_; clear n0_ n1_; (try clear hb); (try clear hb2); (try clear hk); (try clear hi)) | (go_at_call 29; (with_reducible refine (codec_Reader_List.calls kj15 g391 t418 t419 t420 t421 t422 t423 t424 w _ ?side99  ?side1 ?side2 A50.out).mono ?_); (case side1 => repeat (first | (with_reducible first | exact HI391.out | apply IsS78.alloc | apply IsS78.drewN | apply IsS78.drew | apply IsS78.set_0 | apply IsS78.set_1 | apply IsS78.set_2) | exact HI391.out)); (case side2 => repeat (first | (with_reducible first | exact HB.out | apply below_alloc | apply pw_below_drewN | apply below_drew1 | refine below_set ?_ (IsS78.ge HI391.out)) | exact HB.out)); (case side99 => exact HG.out); rintro e w57 ⟨rfl, hi, hb, hk⟩; have n0_ := Aside0.mk (hb); have n1_ := Aside0.mk (hi); clear HB; clear HI391; have HB := n0_; have HI391 := n1_; clear n0_ n1_; (try clear hb); (try clear hb2); (try clear hk); (try clear hi)) | (go_at_call 30; (with_reducible refine (codec_Reader_Bool.calls kj15 g391 t422 t423 t424 false t426 t427 t428 w _ ?side99  ?side1 ?side2 A52.out).mono ?_); (case side1 => repeat (first | (with_reducible first | exact HI391.out | apply IsS78.alloc | apply IsS78.drewN | apply IsS78.drew | apply IsS78.set_0 | apply IsS78.set_1 | apply IsS78.set_2) | exact HI391.out)); (case side2 => repeat (first | (with_reducible first | exact HB.out | apply below_alloc | apply pw_below_drewN | apply below_drew1 | refine below_set ?_ (IsS78.ge HI391.out)) | exact HB.out)); (case side99 => exact HG.out); rintro e w58 ⟨rfl, hi, hb, hk⟩; have n0_ := Aside0.mk (hb); have n1_ := Aside0.mk (hi); clear HB; clear HI391; have HB := n0_; have HI391 := n1_; clear n0_ n1_; (try clear hb); (try clear hb2); (try clear hk); (try clear hi)))
                                        go_roundg kj15
                                        case measure => have := HJ4.out; have := HK2.out; have := HJ12.out; have := HJ15.out; omega
                                        case rel => exact ⟨(x6_2), (x7_2), (wrap64 (x8_2 + 1)), (t426), (t427), (t428), (by first | rfl | (simp; done) | (simp [*]; done)), (by first | rfl | (simp; done) | (simp [*]; done)), (by first | rfl | (simp; done) | (simp [*]; done)), H', ⟨by have := HJ4.out; have := HK2.out; have := HJ12.out; have := HJ15.out; omega⟩, ⟨by repeat (first | (with_reducible first | exact HI391.out | apply IsS78.alloc | apply IsS78.drewN | apply IsS78.drew | apply IsS78.set_0 | apply IsS78.set_1 | apply IsS78.set_2) | exact HI391.out)⟩, ⟨by repeat (first | (with_reducible first | exact HB.out | apply below_alloc | apply pw_below_drewN | apply below_drew1 | refine below_set ?_ (IsS78.ge HI391.out)) | exact HB.out)⟩⟩
                                    · rw [if_neg c51] at H
                                      exact absurd H (by simp)
                                  · rw [if_neg c49] at H
                                    exact absurd H (by simp)
                                · rw [if_neg c47] at H
                                  exact absurd H (by simp)
                              · rw [if_neg c45] at H
                                exact absurd H (by simp)
              · rw [if_neg c11] at H
                have c11b0 : decide (x8_2 ≤ (l1.length : Int)) = false := decide_eq_false c11
                clear c11
                obtain rfl := Option.some.inj H
                go_wp2
                go_ret
                exact ⟨by first | rfl | (simp [errW_none, errW_some] <;> rfl) | (simp [*, errW_none, errW_some] <;> rfl), by repeat (first | (with_reducible first | exact HB.out | apply below_alloc | apply pw_below_drewN | apply below_drew1 | refine below_set ?_ (IsS78.ge HI391.out)) | exact HB.out)⟩
  · replace c4 := Bool.eq_false_iff.mpr c4
    subst c4
    have H1 : (none) = some r := by rw [if_neg (show ¬ (false = true) by decide)] at H; exact H
    clear H
    have H := H1
    clear H1
    exact absurd H (by simp)
end Go.Proofs.YtndeikikeeeigaaDoor.Q
end
section
namespace Go.Proofs.YtndeikikeeeigaaDoor.Opn
open Go.RowKit Go.Proofs.YtndeikikeeeigaaDoorW.PrintWords
def Opn (P : Program) (t : TypeId) {α : Type} (d : Kd α) (V : α → Prop) : Prop :=
  ∀ (H : Type) (enc : TypeId × Value → H) (w : World) (fuel : Nat) (cs : List Value) (x : DataW H × List MemPlace),
    DataW.trod enc P w 0 (fun _ => true) true fuel t cs = some x → (∀ n ∈ DataW.weights P t x.1, n ≤ 140737488351232) → ∃ y, d.K w y cs ∧ V y
theorem opn_int {P : Program} {t : TypeId} {k : IntKind} (ht : P.underlying t = some (.int k)) : Opn P t (Kd.int k) (fun y => (Lit.int k y).wf = true) := by
  intro H enc w fuel cs x h _
  obtain ⟨n, rfl, _, hw⟩ := DataW.trod_int ht h
  exact ⟨n, rfl, hw⟩
theorem weights_all {H : Type} {P : Program} {e : TypeId} {d : DataW H} {n : Nat} (hn : n ∈ DataW.weights P e d) : ∀ {l : List (DataW H)}, d ∈ l → n ∈ DataW.weightsAll P e l
  | [], h => by simp at h
  | a :: r, h => by
    simp only [DataW.weightsAll, List.mem_append]
    rcases List.mem_cons.1 h with rfl | h
    · exact .inl hn
    · exact .inr (weights_all hn h)
theorem list_of {α : Type} (Q : Nat → α → Prop) : ∀ n, (∀ i, i < n → ∃ y, Q i y) → ∃ l : List α, l.length = n ∧ ∀ i y, l[i]? = some y → Q i y
  | 0, _ => ⟨[], rfl, fun i y h => by simp at h⟩
  | n + 1, h => by
    obtain ⟨l, hl, hq⟩ := list_of Q n (fun i hi => h i (by omega))
    obtain ⟨y, hy⟩ := h n (by omega)
    refine ⟨l ++ [y], by simp [hl], fun i z hz => ?_⟩
    rcases Nat.lt_or_ge i n with hi | hi
    · rw [List.getElem?_append_left (by omega)] at hz
      exact hq i z hz
    · have : i = n := by
        have := (List.getElem?_eq_some_iff.1 hz).1
        simp [hl] at this
        omega
      subst this
      rw [List.getElem?_append_right (by omega), hl, Nat.sub_self] at hz
      simp at hz
      subst hz
      exact hy
theorem opn_slice {P : Program} {t e : TypeId} {α : Type} {d : Kd α} {V : α → Prop} {B : Nat} (ht : P.underlying t = some (.slice e)) (hs : P.cellsOf e = d.sz) (hB : P.bytesOf e = B) (he : Opn P e d V) :
    Opn P t (Kd.slice e d) (fun xs => xs.length * B ≤ 140737488351232 ∧ ∀ x ∈ xs, V x) := by
  intro H enc w fuel cs x h hw
  rcases Go.Deep.open_slice ht h with ⟨rfl, rfl⟩ | ⟨a, len, cap, m, n, D, Pl, rfl, _, hl, hm, hmm, rfl, hi⟩
  · exact ⟨[], ⟨none, 0, rfl, by simp, rfl, by simp, fun hn => absurd hn (by simp)⟩, by simp, by simp⟩
  have hmm' : m = cap := by simpa using hmm
  subst hmm'
  have hw' : (len + (m - len)) * B ≤ 140737488351232 := by
    have := hw ((len + (m - len)) * B) (by simp [DataW.weights, ht, hB])
    exact this
  obtain ⟨l, hlen, hq⟩ := list_of (fun i y => ∃ c, w.cells? 0 (a.add (i * P.cellsOf e)) (P.cellsOf e) = some c ∧ d.K w y c ∧ V y) len (fun i hil => by
    obtain ⟨c, hc, htr⟩ := hi i (by omega)
    obtain ⟨y, hy, hV⟩ := he H enc w n c _ htr (fun k hk => hw k (by
      simp only [DataW.weights, ht, List.mem_cons, List.mem_append]
      exact .inr (.inl (weights_all hk (List.mem_map.2 ⟨i, List.mem_range.2 hil, rfl⟩)))))
    exact ⟨y, c, hc, hy, hV⟩)
  refine ⟨l, ⟨some a, m, by rw [hlen], by omega, ?_⟩, ?_, ?_⟩
  · refine ⟨rfl, by simp only [maxLen] at hm; omega, fun _ => ⟨a, rfl, fun j p hj => ?_⟩⟩
    obtain ⟨c, hc, hK, _⟩ := hq j p hj
    obtain ⟨_, hcl, hat⟩ := World.cells?_some hc
    refine ⟨c, by rw [hcl, hs], hK, fun i u hu => ?_⟩
    have hil : i < P.cellsOf e := by
      have := (List.getElem?_eq_some_iff.1 hu).1
      omega
    rw [← hs, ← Go.Deep.add_add, hat i hil, hu]
  · rw [hlen]
    exact Nat.le_trans (Nat.mul_le_mul_right _ (by omega)) hw'
  · intro y hy
    obtain ⟨i, hi2⟩ := List.mem_iff_getElem?.1 hy
    exact (hq i y hi2).elim fun c h => h.2.2
theorem arg_slice {H : Type} {enc : TypeId × Value → H} {P : Program} {t e : TypeId} {α : Type} {d : Kd α} {V : List α → Prop} {W : World} {v : Value} {x : DataW H} {ps : List MemPlace} (ho : Opn P t (Kd.slice e d) V) (a : Option Addr) (len cap : Nat) (hv : v = .slice a len cap)
    (h : DataW.Trod enc P W 0 (fun _ => true) true t v x ps) (hw : ∀ n ∈ DataW.weights P t x, n ≤ 140737488351232) : ∃ (A : Option Addr) (c : Nat) (l : List α), v = .slice A l.length c ∧ l.length ≤ c ∧ Kd.C d W A l.length l ∧ V l := by
  obtain ⟨fuel, hf⟩ := h
  obtain ⟨l, ⟨A, c, hc, hl, hC⟩, hV⟩ := ho H enc W fuel _ _ hf hw
  subst hv
  have he : Value.slice a len cap = .slice A l.length c := by simpa [Value.cells] using hc
  exact ⟨A, c, l, he, hl, hC, hV⟩
theorem arg_weights {H : Type} {P : Program} {ts : List TypeId} {ds : List (DataW H)} (h : (DataW.weightsEach P ts ds).all (· ≤ reachBytes) = true) {j : Nat} {t : TypeId} {d : DataW H} (ht : ts[j]? = some t) (hd : ds[j]? = some d) : ∀ n ∈ DataW.weights P t d, n ≤ 140737488351232 := by
  intro n hn
  have := List.all_eq_true.1 h n (DataW.weights_mem_each ht hd n hn)
  exact of_decide_eq_true this
end Go.Proofs.YtndeikikeeeigaaDoor.Opn
end
section
namespace Go.Proofs.YtndeikikeeeigaaDoor.Q
open Go.RowKit Go.Proofs.YtndeikikeeeigaaDoorW.PrintWords Go.Proofs.YtndeikikeeeigaaDoor.Opn
end Go.Proofs.YtndeikikeeeigaaDoor.Q
end
section
namespace Go.Proofs.YtndeikikeeeigaaDoor.Q
open Go.RowKit Go.Proofs.YtndeikikeeeigaaDoorW.PrintWords
def plenumlaw02_CodecRaw.Pure : Prop := ∀ (a0 : ByteArray) (l1 : List Int), (a0.size ≤ 140737488351232) → (l1.length * 8 ≤ 140737488351232 ∧ ∀ y ∈ l1, (Lit.int .i64 y).wf = true) → ∃ k, plenumlaw02_CodecRaw.f k a0 l1 = some true
end Go.Proofs.YtndeikikeeeigaaDoor.Q
end
section
namespace Go.Proofs.YtndeikikeeeigaaDoor.Pure
open Go.RowKit Go.Proofs.YtndeikikeeeigaaDoorW.PrintWords Go.Proofs.YtndeikikeeeigaaDoorW.PrintLast Go.Proofs.YtndeikikeeeigaaDoorW.PrintMore
theorem u64w (n : Int) : IntKind.u64.wrap n = n % 18446744073709551616 := rfl
theorem i64w (n : Int) : IntKind.i64.wrap n = wrap64 n := by
  unfold wrap64
  show (if (true && decide (n % 18446744073709551616 ≥ 9223372036854775808)) = true then n % 18446744073709551616 - 18446744073709551616 else n % 18446744073709551616) = _
  by_cases h : n % 18446744073709551616 ≥ 9223372036854775808
  · simp only [h, decide_true, Bool.and_self, if_true]; omega
  · simp only [h, decide_false, Bool.and_false, Bool.false_eq_true, if_false]; omega
theorem w64 {n : Int} (h0 : -9223372036854775808 ≤ n) (h1 : n ≤ 9223372036854775807) : wrap64 n = n := by unfold wrap64; omega
theorem and15 (n : Int) (h0 : 0 ≤ n) (h1 : n ≤ 255) : Go.bits .and .u8 n 15 = n % 16 := by
  have : ∀ m : Fin 256, Go.bits .and .u8 (m.val : Int) 15 = (m.val : Int) % 16 := by decide +kernel
  have e := this ⟨n.toNat, by omega⟩
  have hn : ((n.toNat : Nat) : Int) = n := by omega
  simpa [hn] using e
theorem and15_bt (s : ByteArray) (p : Int) : Go.bits .and .u8 (bt s p) 15 = bt s p % 16 := and15 _ (bt_range s p).1 (bt_range s p).2
theorem or_nat (m b : Nat) (hb : b < 256) : (m * 256) ||| b = m * 256 + b := by
  have := Nat.two_pow_add_eq_or_of_lt (i := 8) (b := b) hb m
  rw [Nat.mul_comm] at this
  exact this.symm
theorem or_u64 (a b : Int) (h0 : 0 ≤ a) (h1 : a * 256 < 18446744073709551616) (hb0 : 0 ≤ b) (hb1 : b < 256) : Go.bits .or .u64 (a * 256) b = a * 256 + b := by
  obtain ⟨a, rfl⟩ := Int.eq_ofNat_of_zero_le h0
  obtain ⟨b, rfl⟩ := Int.eq_ofNat_of_zero_le hb0
  show IntKind.u64.wrap (((BitVec.ofInt 64 ((a : Int) * 256)) ||| (BitVec.ofInt 64 (b : Int))).toNat : Int) = _
  rw [BitVec.toNat_or, BitVec.toNat_ofInt, BitVec.toNat_ofInt]
  have e1 : (((a : Int) * 256) % ((2 ^ 64 : Nat) : Int)).toNat = a * 256 := by omega
  have e2 : ((b : Int) % ((2 ^ 64 : Nat) : Int)).toNat = b := by omega
  rw [e1, e2, or_nat a b (by omega), u64w]
  omega
theorem or_i64 (a b : Int) (h0 : -9223372036854775808 ≤ a * 256) (h1 : a * 256 ≤ 9223372036854775807) (hb0 : 0 ≤ b) (hb1 : b < 256) : Go.bits .or .i64 (a * 256) b = a * 256 + b := by
  obtain ⟨b, rfl⟩ := Int.eq_ofNat_of_zero_le hb0
  show IntKind.i64.wrap (((BitVec.ofInt 64 (a * 256)) ||| (BitVec.ofInt 64 (b : Int))).toNat : Int) = _
  rw [BitVec.toNat_or, BitVec.toNat_ofInt, BitVec.toNat_ofInt]
  have e1 : ((a * 256) % ((2 ^ 64 : Nat) : Int)).toNat = (a % 72057594037927936).toNat * 256 := by omega
  have e2 : ((b : Int) % ((2 ^ 64 : Nat) : Int)).toNat = b := by omega
  rw [e1, e2, or_nat _ b (by omega), i64w]
  unfold wrap64
  omega
theorem not_i64 (a : Int) (h0 : -9223372036854775808 ≤ a) (h1 : a < 0) : IntKind.u64.wrap (Go.bits .xor .i64 (-1) a) = -1 - a := by
  show IntKind.u64.wrap (IntKind.i64.wrap (((BitVec.ofInt 64 (-1)) ^^^ (BitVec.ofInt 64 a)).toNat : Int)) = _
  have e : (BitVec.ofInt 64 (-1)) = BitVec.allOnes 64 := by decide
  rw [e, BitVec.allOnes_xor, BitVec.toNat_not, BitVec.toNat_ofInt, i64w, u64w]
  unfold wrap64
  omega
def nb (x : Int) : Int := if x < 256 then 1 else if x < 65536 then 2 else if x < 16777216 then 3 else if x < 4294967296 then 4 else if x < 1099511627776 then 5 else if x < 281474976710656 then 6 else if x < 72057594037927936 then 7 else 8
def sb (x : Int) : Int := if x < 128 then 1 else if x < 32768 then 2 else if x < 8388608 then 3 else if x < 2147483648 then 4 else if x < 549755813888 then 5 else if x < 140737488355328 then 6 else if x < 36028797018963968 then 7 else if x < 9223372036854775808 then 8 else 9
def ss (x : Int) : Int := if x < 0 then sb (-1 - x) else sb x
theorem nb_range (x : Int) : 1 ≤ nb x ∧ nb x ≤ 8 := by unfold nb; omega
theorem ss_range (x : Int) (h0 : -9223372036854775808 ≤ x) (h1 : x ≤ 9223372036854775807) : 1 ≤ ss x ∧ ss x ≤ 8 := by unfold ss sb; omega
theorem nb_div {x : Int} (h : 255 < x) (h1 : x < 18446744073709551616) : nb (x / 256) = nb x - 1 := by unfold nb; omega
theorem nb_small {x : Int} (h : x ≤ 255) : nb x = 1 := by unfold nb; omega
theorem ss_div {x : Int} (h : x < -128 ∨ 127 < x) (h0 : -9223372036854775808 ≤ x) (h1 : x ≤ 9223372036854775807) : ss (x / 256) = ss x - 1 := by unfold ss sb; omega
theorem ss_small {x : Int} (h0 : -128 ≤ x) (h1 : x ≤ 127) : ss x = 1 := by unfold ss sb; omega
end Go.Proofs.YtndeikikeeeigaaDoor.Pure
end
section
namespace Go.Proofs.YtndeikikeeeigaaDoor.Pure
open Go.RowKit Go.Proofs.YtndeikikeeeigaaDoor.Q Go.Proofs.YtndeikikeeeigaaDoorW.PrintWords Go.Proofs.YtndeikikeeeigaaDoorW.PrintLast Go.Proofs.YtndeikikeeeigaaDoorW.PrintMore
set_option linter.unusedVariables false
def lenTab : ByteArray := (⟨#[0, 1, 2, 2, 3, 3, 3, 3, 4, 4, 4, 4, 4, 4, 4, 4, 5, 5, 5, 5, 5, 5, 5, 5, 5, 5, 5, 5, 5, 5, 5, 5, 6, 6, 6, 6, 6, 6, 6, 6, 6, 6, 6, 6, 6, 6, 6, 6, 6, 6, 6, 6, 6, 6, 6, 6, 6, 6, 6, 6, 6, 6, 6, 6, 7, 7, 7, 7, 7, 7, 7, 7, 7, 7, 7, 7, 7, 7, 7, 7, 7, 7, 7, 7, 7, 7, 7, 7, 7, 7, 7, 7, 7, 7, 7, 7, 7, 7, 7, 7, 7, 7, 7, 7, 7, 7, 7, 7, 7, 7, 7, 7, 7, 7, 7, 7, 7, 7, 7, 7, 7, 7, 7, 7, 7, 7, 7, 7, 8, 8, 8, 8, 8, 8, 8, 8, 8, 8, 8, 8, 8, 8, 8, 8, 8, 8, 8, 8, 8, 8, 8, 8, 8, 8, 8, 8, 8, 8, 8, 8, 8, 8, 8, 8, 8, 8, 8, 8, 8, 8, 8, 8, 8, 8, 8, 8, 8, 8, 8, 8, 8, 8, 8, 8, 8, 8, 8, 8, 8, 8, 8, 8, 8, 8, 8, 8, 8, 8, 8, 8, 8, 8, 8, 8, 8, 8, 8, 8, 8, 8, 8, 8, 8, 8, 8, 8, 8, 8, 8, 8, 8, 8, 8, 8, 8, 8, 8, 8, 8, 8, 8, 8, 8, 8, 8, 8, 8, 8, 8, 8, 8, 8, 8, 8, 8, 8, 8, 8, 8, 8, 8, 8, 8, 8, 8, 8]⟩ : ByteArray)
theorem lenTab_at (i : Int) (h0 : 0 ≤ i) (h1 : i < 256) : (i = 0 → bt lenTab i = 0) ∧ (1 ≤ i → 1 ≤ bt lenTab i) ∧ (i < 128 → bt lenTab i ≤ 7) ∧ (128 ≤ i → bt lenTab i = 8) ∧ 0 ≤ bt lenTab i ∧ bt lenTab i ≤ 8 := by
  have : ∀ m : Fin 256, (((m.val : Int) = 0 → bt lenTab (m.val : Int) = 0) ∧ (1 ≤ (m.val : Int) → 1 ≤ bt lenTab (m.val : Int)) ∧ ((m.val : Int) < 128 → bt lenTab (m.val : Int) ≤ 7) ∧ (128 ≤ (m.val : Int) → bt lenTab (m.val : Int) = 8) ∧ 0 ≤ bt lenTab (m.val : Int) ∧ bt lenTab (m.val : Int) ≤ 8) := by decide +kernel
  have e := this ⟨i.toNat, by omega⟩
  have hn : ((i.toNat : Nat) : Int) = i := by omega
  simpa only [hn] using e
theorem wsmall {n : Int} (h0 : 0 ≤ n) (h1 : n ≤ 1000) : wrap64 n = n := by unfold wrap64; omega
set_option maxRecDepth 20000 in
theorem len64_j0 (k : Nat) (x c : Int) (h0 : 0 ≤ x) (h1 : x < 4294967296) (hc : c = 0 ∨ c = 32) : ∃ n, bits_Len64.j0 (k + 1) x c = some n ∧ 0 ≤ n ∧ n ≤ 64 ∧ (x = 0 → n = c) ∧ (1 ≤ x → (n + 7) / 8 = nb x + c / 8) ∧ (n + 8) / 8 = sb x + c / 8 := by
  have hl : ∀ i, bt (⟨#[0, 1, 2, 2, 3, 3, 3, 3, 4, 4, 4, 4, 4, 4, 4, 4, 5, 5, 5, 5, 5, 5, 5, 5, 5, 5, 5, 5, 5, 5, 5, 5, 6, 6, 6, 6, 6, 6, 6, 6, 6, 6, 6, 6, 6, 6, 6, 6, 6, 6, 6, 6, 6, 6, 6, 6, 6, 6, 6, 6, 6, 6, 6, 6, 7, 7, 7, 7, 7, 7, 7, 7, 7, 7, 7, 7, 7, 7, 7, 7, 7, 7, 7, 7, 7, 7, 7, 7, 7, 7, 7, 7, 7, 7, 7, 7, 7, 7, 7, 7, 7, 7, 7, 7, 7, 7, 7, 7, 7, 7, 7, 7, 7, 7, 7, 7, 7, 7, 7, 7, 7, 7, 7, 7, 7, 7, 7, 7, 8, 8, 8, 8, 8, 8, 8, 8, 8, 8, 8, 8, 8, 8, 8, 8, 8, 8, 8, 8, 8, 8, 8, 8, 8, 8, 8, 8, 8, 8, 8, 8, 8, 8, 8, 8, 8, 8, 8, 8, 8, 8, 8, 8, 8, 8, 8, 8, 8, 8, 8, 8, 8, 8, 8, 8, 8, 8, 8, 8, 8, 8, 8, 8, 8, 8, 8, 8, 8, 8, 8, 8, 8, 8, 8, 8, 8, 8, 8, 8, 8, 8, 8, 8, 8, 8, 8, 8, 8, 8, 8, 8, 8, 8, 8, 8, 8, 8, 8, 8, 8, 8, 8, 8, 8, 8, 8, 8, 8, 8, 8, 8, 8, 8, 8, 8, 8, 8, 8, 8, 8, 8, 8, 8, 8, 8, 8, 8]⟩ : ByteArray) i = bt lenTab i := fun _ => rfl
  rw [bits_Len64.j0]
  simp only [hl]
  by_cases c1 : x ≥ 65536
  · by_cases c2 : x / 65536 ≥ 256
    · rw [if_pos c1, if_pos c2, if_pos (by omega), if_pos (by omega)]
      obtain ⟨t1, t2, t3, t4, t5, t6⟩ := lenTab_at (x / 65536 / 256 % 256) (by omega) (by omega)
      generalize bt lenTab (x / 65536 / 256 % 256) = q at *
      rw [wsmall (n := q) (by omega) (by omega), wsmall (n := c + 16) (by omega) (by omega), wsmall (n := c + 16 + 8) (by omega) (by omega), wsmall (by omega) (by omega)]
      refine ⟨_, rfl, by omega, by omega, by omega, by unfold nb; omega, by unfold sb; omega⟩
    · rw [if_pos c1, if_neg c2, if_pos (by omega), if_pos (by omega)]
      obtain ⟨t1, t2, t3, t4, t5, t6⟩ := lenTab_at (x / 65536 % 256) (by omega) (by omega)
      generalize bt lenTab (x / 65536 % 256) = q at *
      rw [wsmall (n := q) (by omega) (by omega), wsmall (n := c + 16) (by omega) (by omega), wsmall (by omega) (by omega)]
      refine ⟨_, rfl, by omega, by omega, by omega, by unfold nb; omega, by unfold sb; omega⟩
  · by_cases c2 : x ≥ 256
    · rw [if_neg c1, if_pos c2, if_pos (by omega), if_pos (by omega)]
      obtain ⟨t1, t2, t3, t4, t5, t6⟩ := lenTab_at (x / 256 % 256) (by omega) (by omega)
      generalize bt lenTab (x / 256 % 256) = q at *
      rw [wsmall (n := q) (by omega) (by omega), wsmall (n := c + 8) (by omega) (by omega), wsmall (by omega) (by omega)]
      refine ⟨_, rfl, by omega, by omega, by omega, by unfold nb; omega, by unfold sb; omega⟩
    · rw [if_neg c1, if_neg c2, if_pos (by omega), if_pos (by omega)]
      obtain ⟨t1, t2, t3, t4, t5, t6⟩ := lenTab_at (x % 256) (by omega) (by omega)
      generalize bt lenTab (x % 256) = q at *
      rw [wsmall (n := q) (by omega) (by omega), wsmall (by omega) (by omega)]
      refine ⟨_, rfl, by omega, by omega, by omega, by unfold nb; omega, by unfold sb; omega⟩
theorem len64 (k : Nat) (x : Int) (h0 : 0 ≤ x) (h1 : x < 18446744073709551616) : ∃ n, bits_Len64.f (k + 1) x = some n ∧ 0 ≤ n ∧ n ≤ 64 ∧ (x = 0 → n = 0) ∧ (1 ≤ x → (n + 7) / 8 = nb x) ∧ (n + 8) / 8 = sb x := by
  unfold bits_Len64.f
  by_cases c : x ≥ 4294967296
  · rw [if_pos c]
    obtain ⟨n, e, a1, a2, a3, a4, a5⟩ := len64_j0 k (x / 4294967296) 32 (by omega) (by omega) (Or.inr rfl)
    refine ⟨n, e, a1, a2, by omega, fun _ => ?_, ?_⟩
    · rw [a4 (by omega)]; unfold nb; omega
    · rw [a5]; unfold sb; omega
  · rw [if_neg c]
    obtain ⟨n, e, a1, a2, a3, a4, a5⟩ := len64_j0 k x 0 h0 (by omega) (Or.inl rfl)
    exact ⟨n, e, a1, a2, a3, fun h => by rw [a4 h]; omega, by rw [a5]; omega⟩
theorem width_eq (k : Nat) (x : Int) (h0 : 0 ≤ x) (h1 : x < 18446744073709551616) : codec_width.f (k + 1) x = some (nb x) := by
  obtain ⟨n, e, a1, a2, a3, a4, a5⟩ := len64 k x h0 h1
  unfold codec_width.f
  rw [e]
  simp only [Option.bind_some]
  rw [wsmall (n := n + 7) (by omega) (by omega), Int.tdiv_eq_ediv_of_nonneg (by omega), wsmall (by omega) (by omega)]
  congr 1
  unfold mx
  by_cases c : x = 0
  · rw [a3 c]; subst c; rfl
  · rw [a4 (by omega)]; have := nb_range x
    split <;> omega
theorem spread_eq (k : Nat) (x : Int) (h0 : -9223372036854775808 ≤ x) (h1 : x ≤ 9223372036854775807) : codec_spread.f (k + 1) x = some (ss x) := by
  unfold codec_spread.f ss
  by_cases c : x < 0
  · rw [if_pos c, if_pos c, not_i64 x h0 c]
    obtain ⟨n, e, a1, a2, a3, a4, a5⟩ := len64 k (-1 - x) (by omega) (by omega)
    rw [e]
    simp only [Option.bind_some]
    rw [wsmall (n := n + 8) (by omega) (by omega), Int.tdiv_eq_ediv_of_nonneg (by omega), wsmall (by omega) (by omega), a5]
  · rw [if_neg c, if_neg c, u64w, Int.emod_eq_of_lt (by omega) (by omega)]
    obtain ⟨n, e, a1, a2, a3, a4, a5⟩ := len64 k x (by omega) (by omega)
    rw [e]
    simp only [Option.bind_some]
    rw [wsmall (n := n + 8) (by omega) (by omega), Int.tdiv_eq_ediv_of_nonneg (by omega), wsmall (by omega) (by omega), a5]
end Go.Proofs.YtndeikikeeeigaaDoor.Pure
end
section
namespace Go.Proofs.YtndeikikeeeigaaDoor.Pure
open Go.RowKit Go.Proofs.YtndeikikeeeigaaDoor.Q Go.Proofs.YtndeikikeeeigaaDoorW.PrintWords Go.Proofs.YtndeikikeeeigaaDoorW.PrintLast Go.Proofs.YtndeikikeeeigaaDoorW.PrintMore
set_option linter.unusedVariables false
set_option linter.unusedSimpArgs false
def kd (b : Int) : Int := if b = 0 then 1 else if b = 1 ∨ b = 2 then 2 else if 16 < b ∧ b ≤ 24 then 3 else if 32 < b ∧ b ≤ 40 then 4 else if b = 48 then 5 else if b = 64 then 6 else 0
def kindS (s : ByteArray) (p : Int) : Int := if p < 0 ∨ p ≥ (s.size : Int) then 0 else kd (bt s p)
theorem byte_fin (s : ByteArray) (p : Int) : ∃ m : Fin 256, ((m.val : Nat) : Int) = bt s p := by
  have := bt_range s p
  exact ⟨⟨(bt s p).toNat, by omega⟩, by show (((bt s p).toNat : Nat) : Int) = _; omega⟩
theorem kind_eq (k : Nat) (s : ByteArray) (p : Int) : codec_kind.f (k + 3) s p = some (kindS s p) := by
  have h1 : ∀ x5 x6 x31, codec_kind.j1 (k + 2) x5 x6 x31 = codec_kind.j1 2 x5 x6 x31 := by intros; simp only [codec_kind.j1, codec_kind.j2]
  unfold codec_kind.f kindS
  by_cases c : p < 0
  · rw [if_pos c, if_pos (Or.inl c)]; simp only [codec_kind.j0, if_true]
  · by_cases c2 : p ≥ (s.size : Int)
    · rw [if_neg c, if_pos (Or.inr c2), decide_eq_true c2]; simp only [codec_kind.j0, if_true]
    · rw [if_neg c, if_neg (by omega), decide_eq_false c2]; simp only [codec_kind.j0, Bool.false_eq_true, if_false]
      rw [if_pos (by omega), if_pos (by omega)]
      simp only [h1]
      obtain ⟨m, hm⟩ := byte_fin s p
      rw [← hm]
      have hb : ∀ m : Fin 256, (if ((m.val : Nat) : Int) = 0 then (some 1) else (if (((m.val : Nat) : Int) / 16) > 4 then (some 0) else (if (((m.val : Nat) : Int) / 16) = 0 then (codec_kind.j1 2 (((m.val : Nat) : Int) / 16) (Go.bits .and .u8 ((m.val : Nat) : Int) 15) (decide ((Go.bits .and .u8 ((m.val : Nat) : Int) 15) > 2))) else (codec_kind.j1 2 (((m.val : Nat) : Int) / 16) (Go.bits .and .u8 ((m.val : Nat) : Int) 15) false)))) = some (kd ((m.val : Nat) : Int)) := by decide +kernel
      exact hb m
theorem refKind_eq (k : Nat) (s : ByteArray) (p : Int) : plenumref02_Kind.f (k + 4) s p = some (kindS s p) := by
  have h1 : ∀ x5 x31, plenumref02_Kind.j1 (k + 3) x5 x31 = plenumref02_Kind.j1 3 x5 x31 := by intros; simp only [plenumref02_Kind.j1, plenumref02_Kind.j2, plenumref02_Kind.j3]
  unfold plenumref02_Kind.f kindS
  by_cases c : p < 0
  · rw [if_pos c, if_pos (Or.inl c)]; simp only [plenumref02_Kind.j0, if_true]
  · by_cases c2 : p ≥ (s.size : Int)
    · rw [if_neg c, if_pos (Or.inr c2), decide_eq_true c2]; simp only [plenumref02_Kind.j0, if_true]
    · rw [if_neg c, if_neg (by omega), decide_eq_false c2]; simp only [plenumref02_Kind.j0, Bool.false_eq_true, if_false]
      rw [if_pos (by omega), if_pos (by omega)]
      simp only [h1]
      obtain ⟨m, hm⟩ := byte_fin s p
      rw [← hm]
      have hb : ∀ m : Fin 256, (if ((m.val : Nat) : Int) = 0 then (some 1) else (if ((m.val : Nat) : Int) = 1 then (plenumref02_Kind.j1 3 ((m.val : Nat) : Int) true) else (plenumref02_Kind.j1 3 ((m.val : Nat) : Int) (((m.val : Nat) : Int) == 2)))) = some (kd ((m.val : Nat) : Int)) := by decide +kernel
      exact hb m
theorem kindS_in {s : ByteArray} {p : Int} (h : kindS s p ≠ 0) : 0 ≤ p ∧ p < (s.size : Int) ∧ kindS s p = kd (bt s p) := by
  unfold kindS at *
  split at h
  · exact absurd rfl h
  · rename_i c
    exact ⟨by omega, by omega, if_neg c⟩
theorem kd3 {b : Int} : kd b = 3 ↔ 16 < b ∧ b ≤ 24 := by unfold kd; omega
theorem kd4 {b : Int} : kd b = 4 ↔ 32 < b ∧ b ≤ 40 := by unfold kd; omega
def beN (s : ByteArray) (q : Int) : Nat → Int
  | 0 => 0
  | n + 1 => beN s q n * 256 + bt s (q + (n : Int))
theorem beN_range (s : ByteArray) (q : Int) (n : Nat) : 0 ≤ beN s q n ∧ beN s q n < 256 ^ n := by
  induction n with
  | zero => simp [beN]
  | succ n ih =>
    have := bt_range s (q + n)
    rw [Int.pow_succ]
    simp only [beN]
    omega
theorem pow256 {n m : Nat} (h : n ≤ m) : (256 : Int) ^ n ≤ 256 ^ m := by
  have := Nat.pow_le_pow_right (n := 256) (by decide) h
  have e : ∀ j : Nat, (256 : Int) ^ j = ((256 ^ j : Nat) : Int) := fun j => by rw [Int.natCast_pow]; rfl
  rw [e, e]
  omega
theorem beN_lt {s : ByteArray} {q : Int} {n m : Nat} (h : n ≤ m) : beN s q n < 256 ^ m := by
  have h1 := (beN_range s q n).2
  have h2 := pow256 h
  omega
def sgn (n : Nat) (V : Int) : Int := if V < 128 * 256 ^ (n - 1) then V else V - 256 ^ n
theorem sgn_range {n : Nat} {V : Int} (h1 : 1 ≤ n) (h8 : n ≤ 8) (h : 0 ≤ V ∧ V < 256 ^ n) : -9223372036854775808 ≤ sgn n V ∧ sgn n V ≤ 9223372036854775807 := by
  unfold sgn
  obtain rfl | rfl | rfl | rfl | rfl | rfl | rfl | rfl : n = 1 ∨ n = 2 ∨ n = 3 ∨ n = 4 ∨ n = 5 ∨ n = 6 ∨ n = 7 ∨ n = 8 := by omega
  all_goals simp only [Int.reducePow, Nat.reduceSub] at h ⊢
  all_goals split <;> omega
theorem sgn_shift {n : Nat} {V : Int} (h1 : 1 ≤ n) (h8 : n ≤ 8) (h : 0 ≤ V ∧ V < 256 ^ n) : shr .i64 (wrap64 (shl .u64 V (wrap64 (64 - (wrap64 (8 * (n : Int))))))) (wrap64 (64 - (wrap64 (8 * (n : Int))))) = sgn n V := by
  have hw : wrap64 (64 - (wrap64 (8 * (n : Int)))) = 64 - 8 * (n : Int) := by rw [w64 (n := 8 * (n : Int)) (by omega) (by omega), w64 (by omega) (by omega)]
  rw [hw]
  unfold sgn shr shl
  obtain rfl | rfl | rfl | rfl | rfl | rfl | rfl | rfl : n = 1 ∨ n = 2 ∨ n = 3 ∨ n = 4 ∨ n = 5 ∨ n = 6 ∨ n = 7 ∨ n = 8 := by omega
  · rw [show (2 : Int) ^ min (64 - 8 * ((1 : Nat) : Int)).toNat IntKind.u64.bits = 72057594037927936 from rfl, show (2 : Int) ^ min (64 - 8 * ((1 : Nat) : Int)).toNat IntKind.i64.bits = 72057594037927936 from rfl, u64w]; unfold wrap64; simp only [Int.reducePow, Nat.reduceSub] at h ⊢; split <;> omega
  · rw [show (2 : Int) ^ min (64 - 8 * ((2 : Nat) : Int)).toNat IntKind.u64.bits = 281474976710656 from rfl, show (2 : Int) ^ min (64 - 8 * ((2 : Nat) : Int)).toNat IntKind.i64.bits = 281474976710656 from rfl, u64w]; unfold wrap64; simp only [Int.reducePow, Nat.reduceSub] at h ⊢; split <;> omega
  · rw [show (2 : Int) ^ min (64 - 8 * ((3 : Nat) : Int)).toNat IntKind.u64.bits = 1099511627776 from rfl, show (2 : Int) ^ min (64 - 8 * ((3 : Nat) : Int)).toNat IntKind.i64.bits = 1099511627776 from rfl, u64w]; unfold wrap64; simp only [Int.reducePow, Nat.reduceSub] at h ⊢; split <;> omega
  · rw [show (2 : Int) ^ min (64 - 8 * ((4 : Nat) : Int)).toNat IntKind.u64.bits = 4294967296 from rfl, show (2 : Int) ^ min (64 - 8 * ((4 : Nat) : Int)).toNat IntKind.i64.bits = 4294967296 from rfl, u64w]; unfold wrap64; simp only [Int.reducePow, Nat.reduceSub] at h ⊢; split <;> omega
  · rw [show (2 : Int) ^ min (64 - 8 * ((5 : Nat) : Int)).toNat IntKind.u64.bits = 16777216 from rfl, show (2 : Int) ^ min (64 - 8 * ((5 : Nat) : Int)).toNat IntKind.i64.bits = 16777216 from rfl, u64w]; unfold wrap64; simp only [Int.reducePow, Nat.reduceSub] at h ⊢; split <;> omega
  · rw [show (2 : Int) ^ min (64 - 8 * ((6 : Nat) : Int)).toNat IntKind.u64.bits = 65536 from rfl, show (2 : Int) ^ min (64 - 8 * ((6 : Nat) : Int)).toNat IntKind.i64.bits = 65536 from rfl, u64w]; unfold wrap64; simp only [Int.reducePow, Nat.reduceSub] at h ⊢; split <;> omega
  · rw [show (2 : Int) ^ min (64 - 8 * ((7 : Nat) : Int)).toNat IntKind.u64.bits = 256 from rfl, show (2 : Int) ^ min (64 - 8 * ((7 : Nat) : Int)).toNat IntKind.i64.bits = 256 from rfl, u64w]; unfold wrap64; simp only [Int.reducePow, Nat.reduceSub] at h ⊢; split <;> omega
  · rw [show (2 : Int) ^ min (64 - 8 * ((8 : Nat) : Int)).toNat IntKind.u64.bits = 1 from rfl, show (2 : Int) ^ min (64 - 8 * ((8 : Nat) : Int)).toNat IntKind.i64.bits = 1 from rfl, u64w]; unfold wrap64; simp only [Int.reducePow, Nat.reduceSub] at h ⊢; split <;> omega
def cnt (s : ByteArray) (p : Int) : Nat := (bt s p % 16).toNat
def val (s : ByteArray) (p : Int) : Int := beN s (p + 1) (cnt s p)
def rawS (s : ByteArray) (p want : Int) : Int × Int × Bool :=
  if kindS s p = want then
    if p + 1 + (cnt s p : Int) > (s.size : Int) then (0, 0, false)
    else if want = 3 then (val s p, p + 1 + (cnt s p : Int), nb (val s p) == (cnt s p : Int))
    else (IntKind.u64.wrap (sgn (cnt s p) (val s p)), p + 1 + (cnt s p : Int), ss (sgn (cnt s p) (val s p)) == (cnt s p : Int))
  else (0, 0, false)
theorem raw_loop (s : ByteArray) (p want : Int) (n : Nat) (hp : 0 ≤ p) (h1 : 1 ≤ n) (h8 : n ≤ 8) (hn : p + 1 + (n : Int) ≤ (s.size : Int)) (hz : s.size ≤ 140737488355327) :
    ∀ (d i : Nat), i + d = n → ∀ k, codec_raw.l0 (k + d + 2) s p want n (beN s (p + 1) i) n i =
      if want = 3 then some (beN s (p + 1) n, p + 1 + (n : Int), nb (beN s (p + 1) n) == (n : Int)) else some (IntKind.u64.wrap (sgn n (beN s (p + 1) n)), p + 1 + (n : Int), ss (sgn n (beN s (p + 1) n)) == (n : Int)) := by
  intro d
  have w1 : wrap64 (p + 1) = p + 1 := w64 (by omega) (by omega)
  induction d with
  | zero =>
    intro i hi k
    obtain rfl : i = n := by omega
    have hr := beN_range s (p + 1) i
    have hlt : beN s (p + 1) i < 256 ^ 8 := beN_lt h8
    simp only [Int.reducePow] at hlt
    have hr' := sgn_range h1 h8 hr
    show codec_raw.l0 ((k + 1) + 1) s p want i _ i i = _
    rw [codec_raw.l0]
    rw [if_neg (by omega), w1, w64 (n := p + 1 + (i : Int)) (by omega) (by omega)]
    by_cases c : want = 3
    · rw [if_pos c, if_pos c, width_eq _ _ hr.1 (by omega)]; rfl
    · have hw : 0 ≤ wrap64 (64 - (wrap64 (8 * (i : Int)))) := by rw [w64 (n := 8 * (i : Int)) (by omega) (by omega), w64 (by omega) (by omega)]; omega
      rw [if_neg c, if_neg c, if_pos hw, sgn_shift h1 h8 hr, spread_eq _ _ hr'.1 hr'.2]; rfl
  | succ d ih =>
    intro i hi k
    have hr := beN_range s (p + 1) i
    have hlt : beN s (p + 1) i < 256 ^ 7 := beN_lt (by omega)
    simp only [Int.reducePow] at hlt
    have hb := bt_range s (p + 1 + (i : Int))
    show codec_raw.l0 ((k + d + 2) + 1) s p want n _ n i = _
    rw [codec_raw.l0]
    rw [if_pos (by omega), w1, w64 (n := p + 1 + (i : Int)) (by omega) (by omega), if_pos (by omega), if_pos (by omega), w64 (n := (i : Int) + 1) (by omega) (by omega), u64w, u64w,
      Int.emod_eq_of_lt (b := 18446744073709551616) (a := beN s (p + 1) i * 256) (by omega) (by omega), Int.emod_eq_of_lt (b := 18446744073709551616) (a := bt s (p + 1 + (i : Int))) (by omega) (by omega), or_u64 _ _ hr.1 (by omega) hb.1 (by omega)]
    have := ih (i + 1) (by omega) k
    have e : ((i + 1 : Nat) : Int) = (i : Int) + 1 := by omega
    rw [e] at this
    exact this
theorem raw_eq (k : Nat) (s : ByteArray) (p want : Int) (hw : want = 3 ∨ want = 4) (hz : s.size ≤ 140737488355327) : codec_raw.f (k + 12) s p want = some (rawS s p want) := by
  unfold codec_raw.f rawS
  rw [show k + 12 = (k + 9) + 3 from rfl, kind_eq]
  simp only [Option.bind_some]
  by_cases c : kindS s p = want
  · rw [if_pos c, if_pos c]
    obtain ⟨p0, p1, hk⟩ := kindS_in (s := s) (p := p) (by omega)
    have hb : (16 < bt s p ∧ bt s p ≤ 24) ∨ (32 < bt s p ∧ bt s p ≤ 40) := by
      rcases hw with rfl | rfl
      · left; exact kd3.1 (hk.symm.trans c)
      · right; exact kd4.1 (hk.symm.trans c)
    have hc : (bt s p % 16) = (cnt s p : Int) := by unfold cnt; omega
    have h1 : 1 ≤ bt s p % 16 ∧ bt s p % 16 ≤ 8 := by omega
    rw [if_pos p0, if_pos p1, and15_bt, hc]
    rw [hc] at h1
    rw [w64 (n := (cnt s p : Int)) (by omega) (by omega), w64 (n := p + 1) (by omega) (by omega), w64 (n := p + 1 + (cnt s p : Int)) (by omega) (by omega)]
    by_cases c2 : p + 1 + (cnt s p : Int) > (s.size : Int)
    · rw [if_pos c2, if_pos c2]
    · rw [if_neg c2, if_neg c2]
      have := raw_loop s p want (cnt s p) p0 (by omega) (by omega) (by omega) hz (cnt s p) 0 (by omega) (k + 10 - cnt s p)
      rw [show k + 10 - cnt s p + cnt s p + 2 = k + 9 + 3 by omega] at this
      refine this.trans ?_
      unfold val
      split <;> rfl
  · rw [if_neg c, if_neg c]
end Go.Proofs.YtndeikikeeeigaaDoor.Pure
end
section
namespace Go.Proofs.YtndeikikeeeigaaDoor.Pure
open Go.RowKit Go.Proofs.YtndeikikeeeigaaDoor.Q Go.Proofs.YtndeikikeeeigaaDoorW.PrintWords Go.Proofs.YtndeikikeeeigaaDoorW.PrintLast Go.Proofs.YtndeikikeeeigaaDoorW.PrintMore
set_option linter.unusedVariables false
set_option linter.unusedSimpArgs false
def beL (V : Int) : Nat → List Int
  | 0 => []
  | n + 1 => beL (V / 256) n ++ [V % 256]
theorem beL_length (V : Int) (n : Nat) : (beL V n).length = n := by
  induction n generalizing V with
  | zero => rfl
  | succ n ih => simp [beL, ih]
theorem strOfNums_size (l : List Int) : (strOfNums l).size = l.length := by
  show ((l.map fun n => UInt8.ofNat n.toNat).toArray).size = _
  simp
theorem refU_loop : ∀ (d : Nat) (x0 : Int) (x3 : List Int) (k : Nat), 0 ≤ x0 → x0 < 18446744073709551616 → nb x0 = (d : Int) + 1 → x3.length + d ≤ 100 →
    plenumref02_Unsigned.l0 (k + d + 1) x0 x3 = some (strOfNums ((16 + ((d + x3.length : Nat) : Int)) :: (beL (x0 / 256) d ++ x3))) := by
  intro d
  induction d with
  | zero =>
    intro x0 x3 k h0 h1 h2 h3
    have hx : ¬ x0 > 255 := by intro h; unfold nb at h2; omega
    show plenumref02_Unsigned.l0 (k + 1) x0 x3 = _
    rw [plenumref02_Unsigned.l0, if_neg hx]
    simp only [Option.bind_some]
    rw [if_pos (by simp; omega), w64 (n := 16 + (x3.length : Int)) (by omega) (by omega), Int.emod_eq_of_lt (by omega) (by omega)]
    simp [beL]
  | succ d ih =>
    intro x0 x3 k h0 h1 h2 h3
    have hx : x0 > 255 := by have := @nb_small x0; omega
    show plenumref02_Unsigned.l0 ((k + d + 1) + 1) x0 x3 = _
    rw [plenumref02_Unsigned.l0, if_pos hx]
    simp only [Option.bind_some]
    rw [if_pos (by simp; omega), Int.tdiv_eq_ediv_of_nonneg h0, u64w, Int.emod_eq_of_lt (b := 18446744073709551616) (by omega) (by omega), ih _ _ k (by omega) (by omega) (by rw [nb_div hx h1]; omega) (by simp; omega)]
    rw [show d + ([x0 / 256 % 256] ++ x3).length = d + 1 + x3.length by simp; omega]
    simp [beL]
theorem refU_eq (k : Nat) (V : Int) (h0 : 0 ≤ V) (h1 : V < 18446744073709551616) : plenumref02_Unsigned.f (k + 8) V = some (strOfNums ((16 + nb V) :: beL V (nb V).toNat)) := by
  have hr := nb_range V
  have := refU_loop (nb V - 1).toNat V [V % 256] (k + 8 - (nb V - 1).toNat - 1) h0 h1 (by omega) (by simp; omega)
  rw [show k + 8 - (nb V - 1).toNat - 1 + (nb V - 1).toNat + 1 = k + 8 by omega] at this
  unfold plenumref02_Unsigned.f
  rw [this]
  congr 2
  obtain ⟨m, hm⟩ : ∃ m : Nat, nb V = (m : Int) + 1 := ⟨(nb V - 1).toNat, by omega⟩
  rw [hm, show ((m : Int) + 1 - 1).toNat = m by omega, show ((m : Int) + 1).toNat = m + 1 by omega]
  congr 1
theorem refS_loop : ∀ (d : Nat) (x0 : Int) (x3 : List Int) (k : Nat), -9223372036854775808 ≤ x0 → x0 ≤ 9223372036854775807 → ss x0 = (d : Int) + 1 → x3.length + d ≤ 100 →
    plenumref02_Signed.l0 (k + d + 1) x0 x3 = some (strOfNums ((32 + ((d + x3.length : Nat) : Int)) :: (beL (x0 / 256) d ++ x3))) := by
  intro d
  induction d with
  | zero =>
    intro x0 x3 k h0 h1 h2 h3
    have hx : -128 ≤ x0 ∧ x0 ≤ 127 := by unfold ss sb at h2; omega
    show plenumref02_Signed.l0 (k + 1) x0 x3 = _
    rw [plenumref02_Signed.l0, if_neg (by omega), if_neg (by omega)]
    simp only [Option.bind_some]
    rw [if_pos (by simp; omega), w64 (n := 32 + (x3.length : Int)) (by omega) (by omega), Int.emod_eq_of_lt (by omega) (by omega)]
    simp [beL]
  | succ d ih =>
    intro x0 x3 k h0 h1 h2 h3
    have hx : x0 < -128 ∨ 127 < x0 := by have := @ss_small x0; omega
    have e := ih (x0 / 256) ([x0 / 256 % 256] ++ x3) k (by omega) (by omega) (by rw [ss_div hx h0 h1]; omega) (by simp; omega)
    show plenumref02_Signed.l0 ((k + d + 1) + 1) x0 x3 = _
    have e2 : some (strOfNums ((32 + ((d + ([x0 / 256 % 256] ++ x3).length : Nat) : Int)) :: (beL (x0 / 256 / 256) d ++ ([x0 / 256 % 256] ++ x3)))) = some (strOfNums ((32 + ((d + 1 + x3.length : Nat) : Int)) :: (beL (x0 / 256) (d + 1) ++ x3))) := by
      rw [show d + ([x0 / 256 % 256] ++ x3).length = d + 1 + x3.length by simp; omega]
      simp [beL]
    rw [plenumref02_Signed.l0]
    by_cases c : x0 < -128
    · rw [if_pos c]
      simp only [Option.bind_some]
      rw [if_pos (by simp; omega), e, e2]
    · rw [if_neg c, if_pos (by omega)]
      simp only [Option.bind_some]
      rw [if_pos (by simp; omega), e, e2]
theorem refS_eq (k : Nat) (V : Int) (h0 : -9223372036854775808 ≤ V) (h1 : V ≤ 9223372036854775807) : plenumref02_Signed.f (k + 8) V = some (strOfNums ((32 + ss V) :: beL V (ss V).toNat)) := by
  have hr := ss_range V h0 h1
  have := refS_loop (ss V - 1).toNat V [V % 256] (k + 8 - (ss V - 1).toNat - 1) h0 h1 (by omega) (by simp; omega)
  rw [show k + 8 - (ss V - 1).toNat - 1 + (ss V - 1).toNat + 1 = k + 8 by omega] at this
  unfold plenumref02_Signed.f
  rw [this]
  congr 2
  obtain ⟨m, hm⟩ : ∃ m : Nat, ss V = (m : Int) + 1 := ⟨(ss V - 1).toNat, by omega⟩
  rw [hm, show ((m : Int) + 1 - 1).toNat = m by omega, show ((m : Int) + 1).toNat = m + 1 by omega]
  congr 1
theorem ext_size (s : ByteArray) (i j : Nat) (h : i ≤ j) (hj : j ≤ s.size) : (s.extract i j).size = j - i := by
  rw [ByteArray.size_extract]; omega
theorem bt_ext (s : ByteArray) (i j : Nat) (q : Int) (h : i ≤ j) (hj : j ≤ s.size) (h0 : 0 ≤ q) (h1 : q < (j : Int) - i) : bt (s.extract i j) q = bt s ((i : Int) + q) := by
  unfold bt
  rw [dif_pos (by rw [ext_size s i j h hj]; omega), dif_pos (by omega)]
  rw [ByteArray.getElem_extract]
  congr 3
  omega
def numS (s : ByteArray) (p lead : Int) : Bool := decide (p < (s.size : Int)) && decide (lead < bt s p) && decide (bt s p ≤ lead + 8) && decide (p + 1 + (cnt s p : Int) ≤ (s.size : Int))
theorem refNumber_eq (k : Nat) (s : ByteArray) (p lead : Int) (hl : lead = 16 ∨ lead = 32) (hp : 0 ≤ p) (hz : s.size ≤ 140737488355327) :
    plenumref02_number.f (k + 2) s p lead = some (if numS s p lead = true then (s.extract (p + 1).toNat (p + 1 + (cnt s p : Int)).toNat, true) else ((⟨#[]⟩ : ByteArray), false)) := by
  unfold plenumref02_number.f numS
  have hb := bt_range s p
  by_cases c1 : p ≥ (s.size : Int)
  · rw [if_pos c1, decide_eq_false (by omega)]
    simp only [plenumref02_number.j0, if_true, Bool.false_and, Bool.false_eq_true, if_false]
  · rw [if_neg c1, if_pos hp, if_pos (by omega), decide_eq_true (p := p < (s.size : Int)) (by omega)]
    by_cases c2 : bt s p ≤ lead
    · rw [if_pos c2, decide_eq_false (p := lead < bt s p) (by omega)]
      simp only [plenumref02_number.j0, if_true, Bool.false_and, Bool.true_and, Bool.false_eq_true, if_false]
    · rw [if_neg c2, decide_eq_true (p := lead < bt s p) (by omega)]
      by_cases c3 : bt s p > (lead + 8) % 256
      · rw [decide_eq_true c3, decide_eq_false (p := bt s p ≤ lead + 8) (by omega)]
        simp only [plenumref02_number.j0, if_true, Bool.false_and, Bool.true_and, Bool.false_eq_true, if_false]
      · rw [decide_eq_false c3, decide_eq_true (p := bt s p ≤ lead + 8) (by omega)]
        have hc : ((bt s p) - lead) % 256 = (cnt s p : Int) := by unfold cnt; omega
        have hc8 : 1 ≤ cnt s p ∧ cnt s p ≤ 8 := by unfold cnt; omega
        simp only [plenumref02_number.j0, Bool.false_eq_true, if_false, Bool.true_and]
        rw [if_pos hp, if_pos (by omega), hc, w64 (n := (s.size : Int) - p) (by omega) (by omega), w64 (n := (s.size : Int) - p - 1) (by omega) (by omega), w64 (n := p + 1) (by omega) (by omega), w64 (n := p + 1 + (cnt s p : Int)) (by omega) (by omega)]
        by_cases c4 : (cnt s p : Int) > (s.size : Int) - p - 1
        · rw [if_pos c4, decide_eq_false (by omega)]; simp
        · rw [if_neg c4, if_pos (by omega), if_pos (by omega), if_pos (by omega), decide_eq_true (by omega)]; simp
theorem numS_16 {s : ByteArray} {p : Int} (hp : 0 ≤ p) : numS s p 16 = true ↔ kindS s p = 3 ∧ p + 1 + (cnt s p : Int) ≤ (s.size : Int) := by
  unfold numS kindS
  simp only [Bool.and_eq_true, decide_eq_true_eq]
  constructor
  · rintro ⟨⟨⟨a, b⟩, c⟩, d⟩
    rw [if_neg (by omega)]
    exact ⟨kd3.2 ⟨b, c⟩, d⟩
  · rintro ⟨a, d⟩
    split at a
    · exact absurd a (by decide)
    · have := kd3.1 a
      exact ⟨⟨⟨by omega, this.1⟩, this.2⟩, d⟩
theorem numS_32 {s : ByteArray} {p : Int} (hp : 0 ≤ p) : numS s p 32 = true ↔ kindS s p = 4 ∧ p + 1 + (cnt s p : Int) ≤ (s.size : Int) := by
  unfold numS kindS
  simp only [Bool.and_eq_true, decide_eq_true_eq]
  constructor
  · rintro ⟨⟨⟨a, b⟩, c⟩, d⟩
    rw [if_neg (by omega)]
    exact ⟨kd4.2 ⟨b, c⟩, d⟩
  · rintro ⟨a, d⟩
    split at a
    · exact absurd a (by decide)
    · have := kd4.1 a
      exact ⟨⟨⟨by omega, this.1⟩, this.2⟩, d⟩
theorem cnt_of {s : ByteArray} {p : Int} (h : kindS s p = 3 ∨ kindS s p = 4) : 1 ≤ cnt s p ∧ cnt s p ≤ 8 := by
  obtain ⟨a, b, c⟩ := kindS_in (s := s) (p := p) (by omega)
  rw [c] at h
  unfold cnt
  rcases h with h | h
  · have := kd3.1 h; omega
  · have := kd4.1 h; omega
def uS (s : ByteArray) (p : Int) : Option (Int × Int) := if kindS s p = 3 ∧ p + 1 + (cnt s p : Int) ≤ (s.size : Int) ∧ nb (val s p) = (cnt s p : Int) then some (val s p, p + 1 + (cnt s p : Int)) else none
def sS (s : ByteArray) (p : Int) : Option (Int × Int) := if kindS s p = 4 ∧ p + 1 + (cnt s p : Int) ≤ (s.size : Int) ∧ ss (sgn (cnt s p) (val s p)) = (cnt s p : Int) then some (sgn (cnt s p) (val s p), p + 1 + (cnt s p : Int)) else none
def opt3 (o : Option (Int × Int)) : Int × Int × Bool := match o with | some (v, e) => (v, e, true) | none => (0, 0, false)
end Go.Proofs.YtndeikikeeeigaaDoor.Pure
end
section
namespace Go.Proofs.YtndeikikeeeigaaDoor.Pure
open Go.RowKit Go.Proofs.YtndeikikeeeigaaDoor.Q Go.Proofs.YtndeikikeeeigaaDoorW.PrintWords Go.Proofs.YtndeikikeeeigaaDoorW.PrintLast Go.Proofs.YtndeikikeeeigaaDoorW.PrintMore
set_option linter.unusedVariables false
set_option linter.unusedSimpArgs false
theorem refRU_loop (s : ByteArray) (p : Int) (n : Nat) (hp : 0 ≤ p) (h8 : n ≤ 8) (hn : p + 1 + (n : Int) ≤ (s.size : Int)) (hz : s.size ≤ 140737488355327) :
    ∀ (d i : Nat), i + d = n → ∀ k, plenumref02_ReadUnsigned.l0 (k + d + 9) p (s.extract (p + 1).toNat (p + 1 + (n : Int)).toNat) true (beN s (p + 1) i) i =
      some (opt3 (if nb (beN s (p + 1) n) = (n : Int) then some (beN s (p + 1) n, p + 1 + (n : Int)) else none)) := by
  have hs : ((s.extract (p + 1).toNat (p + 1 + (n : Int)).toNat).size : Int) = (n : Int) := by rw [ext_size _ _ _ (by omega) (by omega)]; omega
  intro d
  induction d with
  | zero =>
    intro i hi k
    obtain rfl : i = n := by omega
    have hr := beN_range s (p + 1) i
    have hlt : beN s (p + 1) i < 256 ^ 8 := beN_lt h8
    simp only [Int.reducePow] at hlt
    rw [show k + 0 + 9 = (k + 8) + 1 by omega]
    rw [plenumref02_ReadUnsigned.l0, hs, if_neg (by omega), if_pos rfl, refU_eq _ _ hr.1 (by omega)]
    rw [Option.bind_some]
    have hnb := nb_range (beN s (p + 1) i)
    have hsz : ((strOfNums ((16 + nb (beN s (p + 1) i)) :: beL (beN s (p + 1) i) (nb (beN s (p + 1) i)).toNat)).size : Int) = 1 + nb (beN s (p + 1) i) := by
      rw [strOfNums_size, List.length_cons, beL_length]; omega
    generalize strOfNums ((16 + nb (beN s (p + 1) i)) :: beL (beN s (p + 1) i) (nb (beN s (p + 1) i)).toNat) = enc at hsz ⊢
    have w1 : wrap64 ((i : Int) + 1) = (i : Int) + 1 := w64 (by omega) (by omega)
    have w2 : wrap64 (wrap64 (p + 1) + (i : Int)) = p + 1 + (i : Int) := by rw [w64 (n := p + 1) (by omega) (by omega), w64 (by omega) (by omega)]
    by_cases c : nb (beN s (p + 1) i) = (i : Int)
    · rw [if_pos c, if_pos (by omega), w2, opt3]
    · rw [if_neg c, if_neg (by omega), opt3]
  | succ d ih =>
    intro i hi k
    have hr := beN_range s (p + 1) i
    have hlt : beN s (p + 1) i < 256 ^ 7 := beN_lt (by omega)
    simp only [Int.reducePow] at hlt
    have hb := bt_range s (p + 1 + (i : Int))
    have hbt : bt (s.extract (p + 1).toNat (p + 1 + (n : Int)).toNat) (i : Int) = bt s (p + 1 + (i : Int)) := by
      rw [bt_ext _ _ _ _ (by omega) (by omega) (by omega) (by omega)]
      congr 1
      omega
    rw [show k + (d + 1) + 9 = (k + d + 9) + 1 by omega]
    rw [plenumref02_ReadUnsigned.l0, hs, if_pos (by omega), if_pos (by omega), hbt, w64 (n := (i : Int) + 1) (by omega) (by omega), u64w, u64w,
      Int.emod_eq_of_lt (b := 18446744073709551616) (a := beN s (p + 1) i * 256) (by omega) (by omega), Int.emod_eq_of_lt (b := 18446744073709551616) (a := bt s (p + 1 + (i : Int))) (by omega) (by omega), or_u64 _ _ hr.1 (by omega) hb.1 (by omega)]
    have := ih (i + 1) (by omega) k
    rw [show ((i + 1 : Nat) : Int) = (i : Int) + 1 by omega, show beN s (p + 1) (i + 1) = beN s (p + 1) i * 256 + bt s (p + 1 + (i : Int)) from rfl] at this
    exact this
theorem refRU_eq (k : Nat) (s : ByteArray) (p : Int) (hp : 0 ≤ p) (hz : s.size ≤ 140737488355327) : plenumref02_ReadUnsigned.f (k + 18) s p = some (opt3 (uS s p)) := by
  unfold plenumref02_ReadUnsigned.f uS
  rw [show k + 18 = (k + 16) + 2 from rfl, refNumber_eq _ s p 16 (Or.inl rfl) hp hz]
  simp only [Option.bind_some]
  by_cases c : numS s p 16 = true
  · rw [if_pos c]
    have h := (numS_16 hp).1 c
    have hc := cnt_of (Or.inl h.1)
    have := refRU_loop s p (cnt s p) hp (by omega) h.2 hz (cnt s p) 0 (by omega) (k + 9 - cnt s p)
    rw [show k + 9 - cnt s p + cnt s p + 9 = k + 16 + 2 by omega] at this
    refine this.trans ?_
    show some (opt3 (if nb (val s p) = (cnt s p : Int) then some (val s p, p + 1 + (cnt s p : Int)) else none)) = _
    by_cases c2 : nb (val s p) = (cnt s p : Int)
    · rw [if_pos c2, if_pos ⟨h.1, h.2, c2⟩]
    · rw [if_neg c2, if_neg (fun h' => c2 h'.2.2)]
  · rw [if_neg c, if_neg (fun h' => c ((numS_16 hp).2 ⟨h'.1, h'.2.1⟩))]
    show plenumref02_ReadUnsigned.l0 ((k + 17) + 1) p (⟨#[]⟩ : ByteArray) false 0 0 = _
    rw [plenumref02_ReadUnsigned.l0]
    rfl
end Go.Proofs.YtndeikikeeeigaaDoor.Pure
end
section
namespace Go.Proofs.YtndeikikeeeigaaDoor.Pure
open Go.RowKit Go.Proofs.YtndeikikeeeigaaDoor.Q Go.Proofs.YtndeikikeeeigaaDoorW.PrintWords Go.Proofs.YtndeikikeeeigaaDoorW.PrintLast Go.Proofs.YtndeikikeeeigaaDoorW.PrintMore
set_option linter.unusedVariables false
set_option linter.unusedSimpArgs false
def sx (s : ByteArray) (q : Int) : Nat → Int
  | 0 => if bt s q ≥ 128 then -1 else 0
  | i + 1 => sgn (i + 1) (beN s q (i + 1))
theorem sgn_or (i : Nat) (V : Int) : (sgn (i + 1) V = V ∧ V < 128 * 256 ^ i) ∨ (sgn (i + 1) V = V - 256 ^ i * 256 ∧ 128 * 256 ^ i ≤ V) := by
  have e : sgn (i + 1) V = if V < 128 * 256 ^ i then V else V - 256 ^ i * 256 := by unfold sgn; rw [Int.pow_succ]; rfl
  rw [e]
  by_cases c : V < 128 * 256 ^ i
  · rw [if_pos c]; exact Or.inl ⟨rfl, c⟩
  · rw [if_neg c]; exact Or.inr ⟨rfl, by omega⟩
theorem beN_succ (s : ByteArray) (q : Int) (n : Nat) : beN s q (n + 1) = beN s q n * 256 + bt s (q + (n : Int)) := rfl
theorem sx_step (s : ByteArray) (q : Int) (i : Nat) : sx s q (i + 1) = sx s q i * 256 + bt s (q + (i : Int)) := by
  have hb := bt_range s (q + (i : Int))
  cases i with
  | zero =>
    have e : q + ((0 : Nat) : Int) = q := by omega
    rw [e] at hb ⊢
    have h1 : beN s q 1 = bt s q := by rw [beN_succ, e]; show (0 : Int) * 256 + _ = _; omega
    have h2 := sgn_or 0 (beN s q 1)
    rw [h1] at h2
    have h3 : sx s q (0 + 1) = sgn (0 + 1) (bt s q) := by rw [← h1]; rfl
    have h4 : sx s q 0 = if bt s q ≥ 128 then -1 else 0 := rfl
    rw [h3, h4]
    simp only [Int.reducePow] at h2
    split <;> omega
  | succ i =>
    have h1 := beN_succ s q (i + 1)
    have h2 := sgn_or (i + 1) (beN s q (i + 1 + 1))
    have h3 := sgn_or i (beN s q (i + 1))
    have h4 : sx s q (i + 1 + 1) = sgn (i + 1 + 1) (beN s q (i + 1 + 1)) := rfl
    have h5 : sx s q (i + 1) = sgn (i + 1) (beN s q (i + 1)) := rfl
    rw [h4, h5]
    rw [Int.pow_succ (256 : Int) i] at h2
    generalize (256 : Int) ^ i = P at *
    omega
theorem sx_range (s : ByteArray) (q : Int) (i : Nat) (h : i ≤ 7) : -9223372036854775808 ≤ sx s q i * 256 ∧ sx s q i * 256 ≤ 9223372036854775807 := by
  cases i with
  | zero => simp only [sx]; split <;> omega
  | succ i =>
    have hr := beN_range s q (i + 1)
    simp only [sx, sgn]
    obtain rfl | rfl | rfl | rfl | rfl | rfl | rfl : i = 0 ∨ i = 1 ∨ i = 2 ∨ i = 3 ∨ i = 4 ∨ i = 5 ∨ i = 6 := by omega
    all_goals simp only [Int.reducePow, Nat.reduceSub, Nat.reduceAdd] at hr ⊢
    all_goals split <;> omega
theorem refRS_loop (s : ByteArray) (p : Int) (n : Nat) (hp : 0 ≤ p) (h1 : 1 ≤ n) (h8 : n ≤ 8) (hn : p + 1 + (n : Int) ≤ (s.size : Int)) (hz : s.size ≤ 140737488355327) :
    ∀ (d i : Nat), i + d = n → ∀ k, plenumref02_ReadSigned.l0 (k + d + 9) p (s.extract (p + 1).toNat (p + 1 + (n : Int)).toNat) true (sx s (p + 1) i) i =
      some (opt3 (if ss (sx s (p + 1) n) = (n : Int) then some (sx s (p + 1) n, p + 1 + (n : Int)) else none)) := by
  have hs : ((s.extract (p + 1).toNat (p + 1 + (n : Int)).toNat).size : Int) = (n : Int) := by rw [ext_size _ _ _ (by omega) (by omega)]; omega
  intro d
  induction d with
  | zero =>
    intro i hi k
    obtain rfl : i = n := by omega
    have hr : -9223372036854775808 ≤ sx s (p + 1) i ∧ sx s (p + 1) i ≤ 9223372036854775807 := by
      obtain ⟨m, rfl⟩ : ∃ m, i = m + 1 := ⟨i - 1, by omega⟩
      exact sgn_range h1 h8 (beN_range _ _ _)
    rw [show k + 0 + 9 = (k + 8) + 1 by omega]
    rw [plenumref02_ReadSigned.l0, hs, if_neg (by omega), if_pos rfl, refS_eq _ _ hr.1 hr.2]
    rw [Option.bind_some]
    have hnb := ss_range (sx s (p + 1) i) hr.1 hr.2
    have hsz : ((strOfNums ((32 + ss (sx s (p + 1) i)) :: beL (sx s (p + 1) i) (ss (sx s (p + 1) i)).toNat)).size : Int) = 1 + ss (sx s (p + 1) i) := by
      rw [strOfNums_size, List.length_cons, beL_length]; omega
    generalize strOfNums ((32 + ss (sx s (p + 1) i)) :: beL (sx s (p + 1) i) (ss (sx s (p + 1) i)).toNat) = enc at hsz ⊢
    have w1 : wrap64 ((i : Int) + 1) = (i : Int) + 1 := w64 (by omega) (by omega)
    have w2 : wrap64 (wrap64 (p + 1) + (i : Int)) = p + 1 + (i : Int) := by rw [w64 (n := p + 1) (by omega) (by omega), w64 (by omega) (by omega)]
    by_cases c : ss (sx s (p + 1) i) = (i : Int)
    · rw [if_pos c, if_pos (by omega), w2, opt3]
    · rw [if_neg c, if_neg (by omega), opt3]
  | succ d ih =>
    intro i hi k
    have hr := sx_range s (p + 1) i (by omega)
    have hb := bt_range s (p + 1 + (i : Int))
    have hbt : bt (s.extract (p + 1).toNat (p + 1 + (n : Int)).toNat) (i : Int) = bt s (p + 1 + (i : Int)) := by
      rw [bt_ext _ _ _ _ (by omega) (by omega) (by omega) (by omega)]
      congr 1
      omega
    rw [show k + (d + 1) + 9 = (k + d + 9) + 1 by omega]
    rw [plenumref02_ReadSigned.l0, hs, if_pos (by omega), if_pos (by omega), hbt, w64 (n := (i : Int) + 1) (by omega) (by omega), w64 (n := bt s (p + 1 + (i : Int))) (by omega) (by omega),
      w64 (n := sx s (p + 1) i * 256) hr.1 hr.2, or_i64 _ _ hr.1 hr.2 hb.1 (by omega), ← sx_step]
    have := ih (i + 1) (by omega) k
    rw [show ((i + 1 : Nat) : Int) = (i : Int) + 1 by omega] at this
    exact this
theorem refRS_eq (k : Nat) (s : ByteArray) (p : Int) (hp : 0 ≤ p) (hz : s.size ≤ 140737488355327) : plenumref02_ReadSigned.f (k + 20) s p = some (opt3 (sS s p)) := by
  unfold plenumref02_ReadSigned.f sS
  rw [show k + 20 = (k + 18) + 2 from rfl, refNumber_eq _ s p 32 (Or.inr rfl) hp hz]
  rw [Option.bind_some]
  by_cases c : numS s p 32 = true
  · rw [if_pos c]
    have h := (numS_32 hp).1 c
    have hc := cnt_of (Or.inr h.1)
    have hs : ((s.extract (p + 1).toNat (p + 1 + (cnt s p : Int)).toNat).size : Int) = (cnt s p : Int) := by rw [ext_size _ _ _ (by omega) (by omega)]; omega
    have hb0 : bt (s.extract (p + 1).toNat (p + 1 + (cnt s p : Int)).toNat) 0 = bt s (p + 1) := by
      rw [bt_ext _ _ _ _ (by omega) (by omega) (by omega) (by omega)]
      congr 1
      omega
    have := refRS_loop s p (cnt s p) hp hc.1 hc.2 h.2 hz (cnt s p) 0 (by omega) (k + 9 - cnt s p)
    rw [show k + 9 - cnt s p + cnt s p + 9 = k + 18 by omega] at this
    have e : sx s (p + 1) (cnt s p) = sgn (cnt s p) (val s p) := by
      obtain ⟨m, hm⟩ : ∃ m, cnt s p = m + 1 := ⟨cnt s p - 1, by omega⟩
      unfold val
      rw [hm]
      rfl
    rw [e] at this
    rw [if_pos rfl, hs, if_pos (by omega), hb0]
    rw [show k + 18 + 2 = (k + 18 + 1) + 1 from rfl, plenumref02_ReadSigned.j0]
    have hfin : plenumref02_ReadSigned.l0 (k + 18) p (s.extract (p + 1).toNat (p + 1 + (cnt s p : Int)).toNat) true (if bt s (p + 1) ≥ 128 then -1 else 0) 0 =
        some (opt3 (if kindS s p = 4 ∧ p + 1 + (cnt s p : Int) ≤ (s.size : Int) ∧ ss (sgn (cnt s p) (val s p)) = (cnt s p : Int) then some (sgn (cnt s p) (val s p), p + 1 + (cnt s p : Int)) else none)) := by
      refine this.trans ?_
      by_cases c2 : ss (sgn (cnt s p) (val s p)) = (cnt s p : Int)
      · rw [if_pos c2, if_pos ⟨h.1, h.2, c2⟩]
      · rw [if_neg c2, if_neg (fun h' => c2 h'.2.2)]
    by_cases c3 : bt s (p + 1) ≥ 128
    · rw [decide_eq_true c3, if_pos rfl, plenumref02_ReadSigned.j1]
      rw [if_pos c3] at hfin
      exact hfin
    · rw [decide_eq_false c3, if_neg (by decide), plenumref02_ReadSigned.j1]
      rw [if_neg c3] at hfin
      exact hfin
  · rw [if_neg c, if_neg (c := (((⟨#[]⟩ : ByteArray), false) : ByteArray × Bool).2 = true) (by decide), if_neg (fun h' => c ((numS_32 hp).2 ⟨h'.1, h'.2.1⟩))]
    rw [show k + 18 + 2 = (k + 17 + 1 + 1) + 1 from rfl, plenumref02_ReadSigned.j0, if_neg (by decide), plenumref02_ReadSigned.j1, plenumref02_ReadSigned.l0, if_neg (by decide), if_neg (by decide), opt3]
theorem rawS3 (s : ByteArray) (p : Int) : (∀ v e, uS s p = some (v, e) → rawS s p 3 = (v, e, true)) ∧ (uS s p = none → (rawS s p 3).2.2 = false) := by
  unfold uS rawS
  refine ⟨fun v e h => ?_, fun h => ?_⟩
  · split at h
    · rename_i c
      obtain ⟨rfl, rfl⟩ := Prod.mk.inj (Option.some.inj h)
      rw [if_pos c.1, if_neg (by omega), if_pos rfl, c.2.2]
      simp
    · cases h
  · split at h
    · cases h
    · rename_i c
      by_cases c1 : kindS s p = 3
      · rw [if_pos c1]
        by_cases c2 : p + 1 + (cnt s p : Int) > (s.size : Int)
        · rw [if_pos c2]
        · rw [if_neg c2, if_pos rfl]
          show (nb (val s p) == (cnt s p : Int)) = false
          rw [beq_eq_false_iff_ne]
          exact fun h' => c ⟨c1, by omega, h'⟩
      · rw [if_neg c1]
theorem rawS4 (s : ByteArray) (p : Int) : (∀ v e, sS s p = some (v, e) → rawS s p 4 = (IntKind.u64.wrap v, e, true)) ∧ (sS s p = none → (rawS s p 4).2.2 = false) := by
  unfold sS rawS
  refine ⟨fun v e h => ?_, fun h => ?_⟩
  · split at h
    · rename_i c
      obtain ⟨rfl, rfl⟩ := Prod.mk.inj (Option.some.inj h)
      rw [if_pos c.1, if_neg (by omega), if_neg (by decide), c.2.2]
      simp
    · cases h
  · split at h
    · cases h
    · rename_i c
      by_cases c1 : kindS s p = 4
      · rw [if_pos c1]
        by_cases c2 : p + 1 + (cnt s p : Int) > (s.size : Int)
        · rw [if_pos c2]
        · rw [if_neg c2, if_neg (by decide)]
          show (ss (sgn (cnt s p) (val s p)) == (cnt s p : Int)) = false
          rw [beq_eq_false_iff_ne]
          exact fun h' => c ⟨c1, by omega, h'⟩
      · rw [if_neg c1]
theorem uS_some {s : ByteArray} {p v e : Int} (h : uS s p = some (v, e)) : 0 ≤ p ∧ p + 1 < e ∧ e ≤ (s.size : Int) ∧ 0 ≤ v ∧ v < 18446744073709551616 := by
  unfold uS at h
  split at h
  · rename_i c
    obtain ⟨rfl, rfl⟩ := Prod.mk.inj (Option.some.inj h)
    have hc := cnt_of (Or.inl c.1)
    have hk := kindS_in (s := s) (p := p) (by omega)
    have hr := beN_range s (p + 1) (cnt s p)
    have hlt : beN s (p + 1) (cnt s p) < 256 ^ 8 := beN_lt hc.2
    simp only [Int.reducePow] at hlt
    unfold val
    omega
  · cases h
theorem sS_some {s : ByteArray} {p v e : Int} (h : sS s p = some (v, e)) : 0 ≤ p ∧ p + 1 < e ∧ e ≤ (s.size : Int) ∧ -9223372036854775808 ≤ v ∧ v ≤ 9223372036854775807 := by
  unfold sS at h
  split at h
  · rename_i c
    obtain ⟨rfl, rfl⟩ := Prod.mk.inj (Option.some.inj h)
    have hc := cnt_of (Or.inr c.1)
    have hk := kindS_in (s := s) (p := p) (by omega)
    have hr := sgn_range hc.1 hc.2 (beN_range s (p + 1) (cnt s p))
    unfold val
    omega
  · cases h
def tS (s : ByteArray) (p : Int) : Option (ByteArray × Int) :=
  if kindS s p = 5 then match uS s (p + 1) with
    | some (v, e) => if v > 65535 then none else if v > (s.size : Int) - e then none else some (s.extract e.toNat (e + v).toNat, e + v)
    | none => none
  else none
def lS (s : ByteArray) (p : Int) : Option (Int × Int) :=
  if kindS s p = 6 then match uS s (p + 1) with
    | some (v, e) => if v > 65535 then none else some (v, e)
    | none => none
  else none
def optT (o : Option (ByteArray × Int)) : ByteArray × Int × Bool := match o with | some (v, e) => (v, e, true) | none => ((⟨#[]⟩ : ByteArray), 0, false)
theorem text_eq (k : Nat) (s : ByteArray) (p : Int) (hz : s.size ≤ 140737488355327) : codec_text.f (k + 12) s p = some (optT (tS s p)) := by
  unfold codec_text.f tS
  rw [show k + 12 = (k + 9) + 3 from rfl, kind_eq, Option.bind_some]
  by_cases c : kindS s p = 5
  · have hk := kindS_in (s := s) (p := p) (by omega)
    rw [if_pos c, if_pos c, show k + 9 + 3 = k + 12 from rfl, w64 (n := p + 1) (by omega) (by omega), raw_eq _ _ _ _ (Or.inl rfl) hz, Option.bind_some]
    cases hu : uS s (p + 1) with
    | none =>
      rw [(rawS3 s (p + 1)).2 hu, if_neg (by decide)]
      rfl
    | some ve =>
      obtain ⟨v, e⟩ := ve
      have hb := uS_some hu
      show _ = some (optT (if v > 65535 then none else if v > (s.size : Int) - e then none else some (s.extract e.toNat (e + v).toNat, e + v)))
      rw [(rawS3 s (p + 1)).1 v e hu, if_pos (show ((v, e, true) : Int × Int × Bool).2.2 = true from rfl), show ((v, e, true) : Int × Int × Bool).1 = v from rfl, show ((v, e, true) : Int × Int × Bool).2.1 = e from rfl]
      by_cases c1 : v > 65535
      · rw [if_pos c1, if_pos c1]; rfl
      · rw [if_neg c1, if_neg c1, w64 (n := v) (by omega) (by omega), w64 (n := (s.size : Int) - e) (by omega) (by omega), w64 (n := e + v) (by omega) (by omega)]
        by_cases c2 : v > (s.size : Int) - e
        · rw [if_pos c2, if_pos c2]; rfl
        · rw [if_neg c2, if_neg c2, if_pos (by omega), if_pos (by omega), if_pos (by omega)]; rfl
  · rw [if_neg c, if_neg c]; rfl
theorem list_eq (k : Nat) (s : ByteArray) (p : Int) (hz : s.size ≤ 140737488355327) : codec_list.f (k + 12) s p = some (opt3 (lS s p)) := by
  unfold codec_list.f lS
  rw [show k + 12 = (k + 9) + 3 from rfl, kind_eq, Option.bind_some]
  by_cases c : kindS s p = 6
  · have hk := kindS_in (s := s) (p := p) (by omega)
    rw [if_pos c, if_pos c, show k + 9 + 3 = k + 12 from rfl, w64 (n := p + 1) (by omega) (by omega), raw_eq _ _ _ _ (Or.inl rfl) hz, Option.bind_some]
    cases hu : uS s (p + 1) with
    | none =>
      rw [(rawS3 s (p + 1)).2 hu, if_neg (by decide)]
      rfl
    | some ve =>
      obtain ⟨v, e⟩ := ve
      have hb := uS_some hu
      show _ = some (opt3 (if v > 65535 then none else some (v, e)))
      rw [(rawS3 s (p + 1)).1 v e hu, if_pos (show ((v, e, true) : Int × Int × Bool).2.2 = true from rfl), show ((v, e, true) : Int × Int × Bool).1 = v from rfl, show ((v, e, true) : Int × Int × Bool).2.1 = e from rfl]
      by_cases c1 : v > 65535
      · rw [if_pos c1, if_pos c1]; rfl
      · rw [if_neg c1, if_neg c1, w64 (n := v) (by omega) (by omega)]; rfl
  · rw [if_neg c, if_neg c]; rfl
theorem kd5 {b : Int} : kd b = 5 ↔ b = 48 := by unfold kd; omega
theorem kd6 {b : Int} : kd b = 6 ↔ b = 64 := by unfold kd; omega
theorem refRT_eq (k : Nat) (s : ByteArray) (p : Int) (hp : 0 ≤ p) (hz : s.size ≤ 140737488355327) : plenumref02_ReadText.f (k + 19) s p = some (optT (tS s p)) := by
  unfold plenumref02_ReadText.f tS
  rw [show k + 19 = (k + 18) + 1 from rfl, plenumref02_ReadText.j0, plenumref02_ReadText.j0]
  by_cases c0 : p ≥ (s.size : Int)
  · rw [if_pos c0, if_pos rfl, if_neg (by unfold kindS; rw [if_pos (Or.inr c0)]; decide)]; rfl
  · have hk : kindS s p = kd (bt s p) := by unfold kindS; rw [if_neg (by omega)]
    rw [if_neg c0, if_pos hp, if_pos (by omega), hk]
    by_cases c : bt s p = 48
    · rw [if_neg (by simp [c]), if_pos (kd5.2 c), w64 (n := p + 1) (by omega) (by omega), refRU_eq _ _ _ (by omega) hz, Option.bind_some]
      cases hu : uS s (p + 1) with
      | none => rfl
      | some ve =>
        obtain ⟨v, e⟩ := ve
        have hb := uS_some hu
        show _ = some (optT (if v > 65535 then none else if v > (s.size : Int) - e then none else some (s.extract e.toNat (e + v).toNat, e + v)))
        rw [show opt3 (some (v, e)) = (v, e, true) from rfl, if_pos (show ((v, e, true) : Int × Int × Bool).2.2 = true from rfl), show ((v, e, true) : Int × Int × Bool).1 = v from rfl, show ((v, e, true) : Int × Int × Bool).2.1 = e from rfl]
        by_cases c1 : v > 65535
        · rw [if_pos c1, if_pos c1]; rfl
        · rw [if_neg c1, if_neg c1, w64 (n := v) (by omega) (by omega), w64 (n := (s.size : Int) - e) (by omega) (by omega), w64 (n := e + v) (by omega) (by omega)]
          by_cases c2 : v > (s.size : Int) - e
          · rw [if_pos c2, if_pos c2]; rfl
          · rw [if_neg c2, if_neg c2, if_pos (by omega), if_pos (by omega), if_pos (by omega)]; rfl
    · rw [if_pos (by simp [c]), if_neg (fun h => c (kd5.1 h))]; rfl
theorem refRH_eq (k : Nat) (s : ByteArray) (p : Int) (hp : 0 ≤ p) (hz : s.size ≤ 140737488355327) : plenumref02_ReadHead.f (k + 19) s p = some (opt3 (lS s p)) := by
  unfold plenumref02_ReadHead.f lS
  rw [show k + 19 = (k + 18) + 1 from rfl, plenumref02_ReadHead.j0, plenumref02_ReadHead.j0]
  by_cases c0 : p ≥ (s.size : Int)
  · rw [if_pos c0, if_pos rfl, if_neg (by unfold kindS; rw [if_pos (Or.inr c0)]; decide)]; rfl
  · have hk : kindS s p = kd (bt s p) := by unfold kindS; rw [if_neg (by omega)]
    rw [if_neg c0, if_pos hp, if_pos (by omega), hk]
    by_cases c : bt s p = 64
    · rw [if_neg (by simp [c]), if_pos (kd6.2 c), w64 (n := p + 1) (by omega) (by omega), refRU_eq _ _ _ (by omega) hz, Option.bind_some]
      cases hu : uS s (p + 1) with
      | none => rfl
      | some ve =>
        obtain ⟨v, e⟩ := ve
        have hb := uS_some hu
        show _ = some (opt3 (if v > 65535 then none else some (v, e)))
        rw [show opt3 (some (v, e)) = (v, e, true) from rfl, if_pos (show ((v, e, true) : Int × Int × Bool).2.2 = true from rfl), show ((v, e, true) : Int × Int × Bool).1 = v from rfl, show ((v, e, true) : Int × Int × Bool).2.1 = e from rfl]
        by_cases c1 : v > 65535
        · rw [if_pos c1, if_pos c1]; rfl
        · rw [if_neg c1, if_neg c1, w64 (n := v) (by omega) (by omega)]; rfl
    · rw [if_pos (by simp [c]), if_neg (fun h => c (kd6.1 h))]; rfl
end Go.Proofs.YtndeikikeeeigaaDoor.Pure
end
section
namespace Go.Proofs.YtndeikikeeeigaaDoor.Q
open Go.RowKit Go.Proofs.YtndeikikeeeigaaDoorW.PrintWords Go.Proofs.YtndeikikeeeigaaDoorW.PrintLast Go.Proofs.YtndeikikeeeigaaDoorW.PrintMore
attribute [local go_sem] max2_int min2_int max_two min_two max_three min_three max_four min_four
set_option linter.unusedVariables false
set_option linter.unusedSimpArgs false
end Go.Proofs.YtndeikikeeeigaaDoor.Q
end
section
namespace Go.Proofs.YtndeikikeeeigaaDoor.Pure
open Go.RowKit Go.Proofs.YtndeikikeeeigaaDoor.Q Go.Proofs.YtndeikikeeeigaaDoorW.PrintWords Go.Proofs.YtndeikikeeeigaaDoorW.PrintLast Go.Proofs.YtndeikikeeeigaaDoorW.PrintMore
set_option linter.unusedVariables false
set_option linter.unusedSimpArgs false
theorem lS_some {s : ByteArray} {p v e : Int} (h : lS s p = some (v, e)) : 0 ≤ p ∧ p + 1 < e ∧ e ≤ (s.size : Int) ∧ 0 ≤ v ∧ v ≤ 65535 := by
  unfold lS at h
  by_cases c : kindS s p = 6
  · have hk := kindS_in (s := s) (p := p) (by omega)
    rw [if_pos c] at h
    cases hu : uS s (p + 1) with
    | none => rw [hu] at h; cases h
    | some ve =>
      obtain ⟨v', e'⟩ := ve
      have hb := uS_some hu
      rw [hu] at h
      have h' : (if v' > 65535 then none else some (v', e')) = some (v, e) := h
      by_cases c1 : v' > 65535
      · rw [if_pos c1] at h'; cases h'
      · rw [if_neg c1] at h'
        obtain ⟨rfl, rfl⟩ := Prod.mk.inj (Option.some.inj h')
        omega
  · rw [if_neg c] at h; cases h
theorem tS_some {s : ByteArray} {p : Int} {t : ByteArray} {e : Int} (h : tS s p = some (t, e)) : 0 ≤ p ∧ p + 1 < e ∧ e ≤ (s.size : Int) := by
  unfold tS at h
  by_cases c : kindS s p = 5
  · have hk := kindS_in (s := s) (p := p) (by omega)
    rw [if_pos c] at h
    cases hu : uS s (p + 1) with
    | none => rw [hu] at h; cases h
    | some ve =>
      obtain ⟨v', e'⟩ := ve
      have hb := uS_some hu
      rw [hu] at h
      have h' : (if v' > 65535 then none else if v' > (s.size : Int) - e' then none else some (s.extract e'.toNat (e' + v').toNat, e' + v')) = some (t, e) := h
      by_cases c1 : v' > 65535
      · rw [if_pos c1] at h'; cases h'
      · rw [if_neg c1] at h'
        by_cases c2 : v' > (s.size : Int) - e'
        · rw [if_pos c2] at h'; cases h'
        · rw [if_neg c2] at h'
          obtain ⟨rfl, rfl⟩ := Prod.mk.inj (Option.some.inj h')
          omega
  · rw [if_neg c] at h; cases h
theorem opt3_none : opt3 none = (0, 0, false) := rfl
theorem opt3_some (v e : Int) : opt3 (some (v, e)) = (v, e, true) := rfl
theorem optT_none : optT none = ((⟨#[]⟩ : ByteArray), 0, false) := rfl
theorem optT_some (v : ByteArray) (e : Int) : optT (some (v, e)) = (v, e, true) := rfl
end Go.Proofs.YtndeikikeeeigaaDoor.Pure
end
section
namespace Go.Proofs.YtndeikikeeeigaaDoor.Pure
open Go.RowKit Go.Proofs.YtndeikikeeeigaaDoor.Q Go.Proofs.YtndeikikeeeigaaDoorW.PrintWords Go.Proofs.YtndeikikeeeigaaDoorW.PrintLast Go.Proofs.YtndeikikeeeigaaDoorW.PrintMore
set_option linter.unusedVariables false
theorem rd_err (k : Nat) (s : ByteArray) (p : Int) : codec_Reader_Unsigned.f k s p 2 = some (0, s, p, 2) ∧ codec_Reader_Signed.f k s p 2 = some (0, s, p, 2) ∧ codec_Reader_Text.f k s p 2 = some ((⟨#[]⟩ : ByteArray), s, p, 2) ∧ codec_Reader_List.f k s p 2 = some (0, s, p, 2) ∧ codec_Reader_Bool.f k s p 2 = some (false, s, p, 2) ∧ codec_Reader_Null.f k s p 2 = some (s, p, 2) ∧ codec_Reader_Kind.f k s p 2 = some (0, s, p, 2) :=
  ⟨rfl, rfl, rfl, rfl, rfl, rfl, rfl⟩
theorem rd_kind (k : Nat) (s : ByteArray) (p : Int) : codec_Reader_Kind.f (k + 3) s p 0 = some (kindS s p, s, p, 0) := by
  unfold codec_Reader_Kind.f
  rw [if_pos rfl, kind_eq, Option.bind_some]
theorem rd_null (k : Nat) (s : ByteArray) (p : Int) (h0 : 0 ≤ p) (h1 : p ≤ 140737488355327) : codec_Reader_Null.f (k + 3) s p 0 = some (if kindS s p = 1 then (s, p + 1, 0) else (s, p, 2)) := by
  unfold codec_Reader_Null.f codec_Reader_Null_1.f
  rw [if_pos rfl, kind_eq, Option.bind_some, Option.bind_some, w64 (by omega) (by omega)]
  by_cases c : kindS s p = 1
  · rw [if_pos c, if_pos (by simpa using c)]
  · rw [if_neg c, if_neg (by simpa using c)]
theorem rd_bool (k : Nat) (s : ByteArray) (p : Int) (h0 : 0 ≤ p) (h1 : p ≤ 140737488355327) : codec_Reader_Bool.f (k + 3) s p 0 = some (if kindS s p = 2 then (bt s p == 2, s, p + 1, 0) else (false, s, p, 2)) := by
  unfold codec_Reader_Bool.f codec_Reader_Bool_1.f
  rw [if_pos rfl, kind_eq, Option.bind_some, w64 (by omega) (by omega)]
  by_cases c : kindS s p = 2
  · obtain ⟨a, b, _⟩ := kindS_in (s := s) (p := p) (by omega)
    rw [if_pos c, if_pos c, if_pos a, if_pos b, Option.bind_some, if_pos rfl]
  · rw [if_neg c, if_neg c, Option.bind_some, if_neg Bool.false_ne_true]
theorem rd_end (s : ByteArray) (p : Int) (h1 : p ≤ (s.size : Int)) : codec_Reader_End.f s p 0 = some (if p < (s.size : Int) then 2 else 0, s, p, 0) := by
  unfold codec_Reader_End.f
  rw [if_pos rfl]
  by_cases c : p < (s.size : Int)
  · rw [if_pos c, if_neg (by omega)]
  · rw [if_neg c, if_pos (by omega)]
theorem rd_end2 (s : ByteArray) (p : Int) : codec_Reader_End.f s p 2 = some (2, s, p, 2) := rfl
def rdU (s : ByteArray) (p : Int) : Int × ByteArray × Int × Int := match uS s p with | some (v, e) => (v, s, e, 0) | none => (0, s, p, 2)
def rdS (s : ByteArray) (p : Int) : Int × ByteArray × Int × Int := match sS s p with | some (v, e) => (v, s, e, 0) | none => (0, s, p, 2)
def rdT (s : ByteArray) (p : Int) : ByteArray × ByteArray × Int × Int := match tS s p with | some (v, e) => (v, s, e, 0) | none => ((⟨#[]⟩ : ByteArray), s, p, 2)
def rdL (s : ByteArray) (p : Int) : Int × ByteArray × Int × Int := match lS s p with | some (v, e) => (v, s, e, 0) | none => (0, s, p, 2)
theorem rd_unsigned (k : Nat) (s : ByteArray) (p : Int) (hz : s.size ≤ 140737488355327) : codec_Reader_Unsigned.f (k + 12) s p 0 = some (rdU s p) := by
  unfold codec_Reader_Unsigned.f codec_Reader_Unsigned_1.f rdU
  rw [if_pos rfl, raw_eq k s p 3 (Or.inl rfl) hz, Option.bind_some, Option.bind_some]
  cases e : uS s p with
  | some x =>
    obtain ⟨v, q⟩ := x
    rw [(rawS3 s p).1 v q e, if_pos rfl]
  | none => rw [if_neg (by rw [(rawS3 s p).2 e]; exact Bool.false_ne_true)]
theorem rd_signed (k : Nat) (s : ByteArray) (p : Int) (hz : s.size ≤ 140737488355327) : codec_Reader_Signed.f (k + 12) s p 0 = some (rdS s p) := by
  unfold codec_Reader_Signed.f codec_Reader_Signed_1.f rdS
  rw [if_pos rfl, raw_eq k s p 4 (Or.inr rfl) hz, Option.bind_some, Option.bind_some]
  cases e : sS s p with
  | some x =>
    obtain ⟨v, q⟩ := x
    have hr := sS_some e
    rw [(rawS4 s p).1 v q e, if_pos rfl]
    have : wrap64 (IntKind.u64.wrap v) = v := by rw [u64w]; unfold wrap64; omega
    rw [this]
  | none => rw [if_neg (by rw [(rawS4 s p).2 e]; exact Bool.false_ne_true)]
theorem rd_text (k : Nat) (s : ByteArray) (p : Int) (hz : s.size ≤ 140737488355327) : codec_Reader_Text.f (k + 12) s p 0 = some (rdT s p) := by
  unfold codec_Reader_Text.f rdT
  rw [if_pos rfl, text_eq k s p hz, Option.bind_some]
  cases e : tS s p with
  | some x => obtain ⟨v, q⟩ := x; rw [optT_some, if_pos rfl]
  | none => rw [optT_none, if_neg Bool.false_ne_true]
theorem rd_list (k : Nat) (s : ByteArray) (p : Int) (hz : s.size ≤ 140737488355327) : codec_Reader_List.f (k + 12) s p 0 = some (rdL s p) := by
  unfold codec_Reader_List.f rdL
  rw [if_pos rfl, list_eq k s p hz, Option.bind_some]
  cases e : lS s p with
  | some x => obtain ⟨v, q⟩ := x; rw [opt3_some, if_pos rfl]
  | none => rw [opt3_none, if_neg Bool.false_ne_true]
end Go.Proofs.YtndeikikeeeigaaDoor.Pure
end
section
namespace Go.Proofs.YtndeikikeeeigaaDoor.Pure
open Go.RowKit Go.Proofs.YtndeikikeeeigaaDoor.Q Go.Proofs.YtndeikikeeeigaaDoorW.PrintWords Go.Proofs.YtndeikikeeeigaaDoorW.PrintLast Go.Proofs.YtndeikikeeeigaaDoorW.PrintMore
theorem awake_60 : plenumlaw02_awake.f 60 = some true := by decide +kernel
theorem awake_eq (k : Nat) : plenumlaw02_awake.f (k + 60) = some true := by
  induction k with
  | zero => exact awake_60
  | succ k ih =>
    have := plenumlaw02_awake.mono (k + 60)
    rw [show k + 1 + 60 = k + 60 + 1 by omega]
    exact this _ ih
end Go.Proofs.YtndeikikeeeigaaDoor.Pure
end
section
namespace Go.Proofs.YtndeikikeeeigaaDoor.Pure
open Go.RowKit Go.Proofs.YtndeikikeeeigaaDoor.Q Go.Proofs.YtndeikikeeeigaaDoorW.PrintWords Go.Proofs.YtndeikikeeeigaaDoorW.PrintLast Go.Proofs.YtndeikikeeeigaaDoorW.PrintMore
set_option linter.unusedVariables false
theorem kind_1 {s : ByteArray} {p : Int} (h0 : 0 ≤ p) (h1 : p < (s.size : Int)) : kindS s p = 1 ↔ bt s p = 0 := by
  unfold kindS
  rw [if_neg (by omega)]
  unfold kd
  omega
theorem kind_2 {s : ByteArray} {p : Int} (h0 : 0 ≤ p) (h1 : p < (s.size : Int)) : kindS s p = 2 ↔ bt s p = 1 ∨ bt s p = 2 := by
  unfold kindS
  rw [if_neg (by omega)]
  unfold kd
  omega
theorem kind_out {s : ByteArray} {p : Int} (h1 : ¬ p < (s.size : Int)) : kindS s p = 0 := by
  unfold kindS
  exact if_pos (Or.inr (by omega))
theorem step_eq (k : Nat) (s : ByteArray) (p n : Int) (hz : s.size ≤ 140737488355327) (h0 : 0 ≤ p) (h1 : p ≤ (s.size : Int)) :
    ∃ (q : Int) (b : Bool), 0 ≤ q ∧ q ≤ (s.size : Int) ∧ plenumlaw02_step.f (k + 30) s p 0 s p n = some (q, b, true, s, q, if b = true then 0 else 2) := by
  unfold plenumlaw02_step.f
  have w1 : wrap64 (p + 1) = p + 1 := w64 (by omega) (by omega)
  by_cases n1 : n = 1
  · rw [if_pos n1, rd_null (k + 27) s p h0 (by omega), Option.bind_some, w1]
    by_cases c : p < (s.size : Int)
    · rw [if_pos c, if_pos h0]
      by_cases c2 : bt s p = 0
      · rw [if_pos c2, if_pos ((kind_1 h0 c).2 c2)]
        exact ⟨p + 1, true, by omega, by omega, by rw [show (bt s p == 0) = true by simpa using c2]; rfl⟩
      · rw [if_neg c2, if_neg (fun h => c2 ((kind_1 h0 c).1 h))]
        exact ⟨p, false, by omega, by omega, by rw [show (bt s p == 0) = false by simpa using c2]; rfl⟩
    · rw [if_neg c, if_neg (by rw [kind_out c]; decide)]
      exact ⟨p, false, by omega, by omega, rfl⟩
  rw [if_neg n1]
  by_cases n2 : n = 2
  · rw [if_pos n2, rd_bool (k + 27) s p h0 (by omega), Option.bind_some, w1]
    by_cases c : p < (s.size : Int)
    · rw [if_pos c, if_pos h0]
      by_cases c2 : bt s p = 1
      · rw [if_pos c2, if_pos ((kind_2 h0 c).2 (Or.inl c2))]
        exact ⟨p + 1, true, by omega, by omega, by simp⟩
      · rw [if_neg c2]
        by_cases c3 : bt s p = 2
        · rw [if_pos c3, if_pos ((kind_2 h0 c).2 (Or.inr c3))]
          exact ⟨p + 1, true, by omega, by omega, by simp [c3]⟩
        · rw [if_neg c3, if_neg (fun h => by rcases (kind_2 h0 c).1 h with h | h <;> contradiction)]
          exact ⟨p, false, by omega, by omega, by simp [c3]⟩
    · rw [if_neg c, if_neg (by rw [kind_out c]; decide)]
      exact ⟨p, false, by omega, by omega, rfl⟩
  rw [if_neg n2]
  by_cases n3 : n = 3
  · rw [if_pos n3, show k + 30 = (k + 12) + 18 by omega, refRU_eq _ s p h0 hz, Option.bind_some, show k + 12 + 18 = (k + 18) + 12 by omega, rd_unsigned _ s p hz, Option.bind_some]
    unfold rdU
    cases e : uS s p with
    | some x =>
      obtain ⟨v, q⟩ := x
      have := uS_some e
      exact ⟨q, true, by omega, by omega, by simp [opt3]⟩
    | none => exact ⟨p, false, by omega, by omega, by simp [opt3]⟩
  rw [if_neg n3]
  by_cases n4 : n = 4
  · rw [if_pos n4, show k + 30 = (k + 10) + 20 by omega, refRS_eq _ s p h0 hz, Option.bind_some, show k + 10 + 20 = (k + 18) + 12 by omega, rd_signed _ s p hz, Option.bind_some]
    unfold rdS
    cases e : sS s p with
    | some x =>
      obtain ⟨v, q⟩ := x
      have := sS_some e
      exact ⟨q, true, by omega, by omega, by simp [opt3]⟩
    | none => exact ⟨p, false, by omega, by omega, by simp [opt3]⟩
  rw [if_neg n4]
  by_cases n5 : n = 5
  · rw [if_pos n5, show k + 30 = (k + 11) + 19 by omega, refRT_eq _ s p h0 hz, Option.bind_some, show k + 11 + 19 = (k + 18) + 12 by omega, rd_text _ s p hz, Option.bind_some]
    unfold rdT
    cases e : tS s p with
    | some x =>
      obtain ⟨v, q⟩ := x
      have := tS_some e
      exact ⟨q, true, by omega, by omega, by simp [optT]⟩
    | none => exact ⟨p, false, by omega, by omega, by simp [optT]⟩
  rw [if_neg n5]
  by_cases n6 : n = 6
  · rw [if_pos n6, show k + 30 = (k + 11) + 19 by omega, refRH_eq _ s p h0 hz, Option.bind_some, show k + 11 + 19 = (k + 18) + 12 by omega, rd_list _ s p hz, Option.bind_some]
    unfold rdL
    cases e : lS s p with
    | some x =>
      obtain ⟨v, q⟩ := x
      have := lS_some e
      exact ⟨q, true, by omega, by omega, by simp [opt3]⟩
    | none => exact ⟨p, false, by omega, by omega, by simp [opt3]⟩
  rw [if_neg n6]
  exact ⟨p, true, by omega, by omega, rfl⟩
theorem raw_law_loop (s : ByteArray) (l : List Int) (hz : s.size ≤ 140737488355327) (hl : l.length ≤ 40) : ∀ (d i k : Nat) (p e : Int), i + d = l.length → 0 ≤ p → p ≤ (s.size : Int) → e = 0 ∨ e = 2 →
    plenumlaw02_CodecRaw.l0 (k + 3 * d + 40) s l p e (i : Int) s p e = some true := by
  intro d
  induction d with
  | zero =>
    intro i k p e hi h0 h1 he
    rw [show k + 3 * 0 + 40 = (k + 35) + 4 + 1 by omega, plenumlaw02_CodecRaw.l0, if_pos (by omega), refKind_eq, Option.bind_some]
    rcases he with rfl | rfl
    · rw [if_pos rfl]
      have hx : ∀ x, (if p < (s.size : Int) then 2 else 0) = x → plenumlaw02_CodecRaw.j2 (k + 35 + 4) s l p 0 (i : Int) (kindS s p) x s p 0 = some true := fun x ex => by
        rw [show k + 35 + 4 = (k + 34 + 1) + 3 + 1 by omega, plenumlaw02_CodecRaw.j2, rd_kind, Option.bind_some, if_pos rfl]
        unfold codec_Reader_Offset.f codec_Reader_Err.f
        rw [Option.bind_some, if_pos rfl, Option.bind_some, if_pos rfl]
        simp only []
        rw [rd_end s p h1, ex, Option.bind_some]
        simp only [bne_self_eq_false]
        rw [show k + 34 + 1 + 3 = (k + 37) + 1 by omega, plenumlaw02_CodecRaw.j3, if_neg (by decide), if_pos (by omega)]
      by_cases c : p < (s.size : Int)
      · rw [if_pos c]; exact hx 2 (if_pos c)
      · rw [if_neg c]; exact hx 0 (if_neg c)
    · rw [if_neg (by decide), show k + 35 + 4 = (k + 37) + 1 + 1 by omega, plenumlaw02_CodecRaw.j2, (rd_err _ s p).2.2.2.2.2.2, Option.bind_some, if_pos rfl]
      unfold codec_Reader_Offset.f codec_Reader_Err.f
      rw [Option.bind_some, if_pos rfl, Option.bind_some, if_pos rfl]
      simp only []
      rw [rd_end2, Option.bind_some]
      simp only [bne_self_eq_false]
      rw [plenumlaw02_CodecRaw.j3, if_neg (by decide), if_pos (by omega)]
  | succ d ih =>
    intro i k p e hi h0 h1 he
    have hw : wrap64 ((i : Int) + 1) = ((i + 1 : Nat) : Int) := by rw [w64 (by omega) (by omega)]; omega
    rw [show k + 3 * (d + 1) + 40 = (k + 3 * d + 38) + 4 + 1 by omega, plenumlaw02_CodecRaw.l0, if_pos (by omega), refKind_eq, Option.bind_some]
    rcases he with rfl | rfl
    · rw [if_pos rfl]
      have hx : ∀ x, (if p < (s.size : Int) then 2 else 0) = x → plenumlaw02_CodecRaw.j2 (k + 3 * d + 38 + 4) s l p 0 (i : Int) (kindS s p) x s p 0 = some true := fun x ex => by
        rw [show k + 3 * d + 38 + 4 = (k + 3 * d + 37 + 1) + 3 + 1 by omega, plenumlaw02_CodecRaw.j2, rd_kind, Option.bind_some, if_pos rfl]
        unfold codec_Reader_Offset.f codec_Reader_Err.f
        rw [Option.bind_some, if_pos rfl, Option.bind_some, if_pos rfl]
        simp only []
        rw [rd_end s p h1, ex, Option.bind_some]
        simp only [bne_self_eq_false]
        rw [show k + 3 * d + 37 + 1 + 3 = (k + 3 * d + 40) + 1 by omega, plenumlaw02_CodecRaw.j3, if_neg (by decide), if_neg (by omega), if_pos rfl, if_pos (by omega), if_pos (by omega)]
        obtain ⟨q, b, q0, q1, hs⟩ := step_eq (k + 3 * d + 10) s p (rd l (i : Int)) hz h0 h1
        rw [show k + 3 * d + 40 = k + 3 * d + 10 + 30 by omega, hs, Option.bind_some, if_pos rfl, hw, show k + 3 * d + 10 + 30 = k + 3 * d + 40 by omega]
        cases b with
        | true => rw [if_pos rfl]; exact ih (i + 1) k q 0 (by omega) q0 q1 (Or.inl rfl)
        | false => rw [if_neg Bool.false_ne_true]; exact ih (i + 1) k q 2 (by omega) q0 q1 (Or.inr rfl)
      by_cases c : p < (s.size : Int)
      · rw [if_pos c]; exact hx 2 (if_pos c)
      · rw [if_neg c]; exact hx 0 (if_neg c)
    · rw [if_neg (by decide), show k + 3 * d + 38 + 4 = (k + 3 * d + 40) + 1 + 1 by omega, plenumlaw02_CodecRaw.j2, (rd_err _ s p).2.2.2.2.2.2, Option.bind_some, if_pos rfl]
      unfold codec_Reader_Offset.f codec_Reader_Err.f
      rw [Option.bind_some, if_pos rfl, Option.bind_some, if_pos rfl]
      simp only []
      rw [rd_end2, Option.bind_some]
      simp only [bne_self_eq_false]
      have hr := rd_err (k + 3 * d + 40) s p
      rw [plenumlaw02_CodecRaw.j3, if_neg (by decide), if_neg (by omega), if_neg (by decide), hr.1, Option.bind_some, if_pos rfl, hr.2.1, Option.bind_some, if_pos rfl, hr.2.2.1, Option.bind_some]
      rw [if_pos (by rw [ByteArray.toList_eq]), hr.2.2.2.1, Option.bind_some, if_pos rfl, hr.2.2.2.2.1, Option.bind_some, if_neg Bool.false_ne_true, hw]
      exact ih (i + 1) k p 2 (by omega) h0 h1 (Or.inr rfl)
theorem CodecRaw : plenumlaw02_CodecRaw.Pure := by
  intro s l hz hl
  have hz' : s.size ≤ 140737488355327 := by omega
  refine ⟨1000, ?_⟩
  unfold plenumlaw02_CodecRaw.f
  rw [show (1000 : Nat) = 940 + 60 from rfl, awake_eq, Option.bind_some, if_pos rfl]
  by_cases c1 : (s.size : Int) > 300
  · rw [if_pos c1, plenumlaw02_CodecRaw.j0, if_pos rfl]
  rw [if_neg c1, show (940 : Nat) + 60 = 999 + 1 from rfl, plenumlaw02_CodecRaw.j0]
  by_cases c2 : (l.length : Int) > 40
  · rw [decide_eq_true c2, if_pos rfl]
  rw [decide_eq_false c2, if_neg (by decide)]
  unfold codec_NewReader.f
  rw [Option.bind_some]
  have := raw_law_loop s l hz' (by omega) l.length 0 (999 - 40 - 3 * l.length) 0 0 (by omega) (by omega) (by omega) (Or.inl rfl)
  rw [show 999 - 40 - 3 * l.length + 3 * l.length + 40 = 999 by omega] at this
  exact this
end Go.Proofs.YtndeikikeeeigaaDoor.Pure
end
