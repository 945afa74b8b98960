/- TrendRestoresCard: one part of the proof that the law answers true for every input, and that its arguments read afterwards as before. No condition. -/
import Derived.Test.YtbccjcdmpiolpaaDoorCRest2
import Derived.Outline
import Derived.Deep.OwnRows
section
namespace Go.Proofs.YtbccjcdmpiolpaaDoor.T
open Go.RowKit Go.Proofs.YtbccjcdmpiolpaaDoorW.PrintWords Go.Proofs.YtbccjcdmpiolpaaDoorW.PrintLast Go.Proofs.YtbccjcdmpiolpaaDoorW.PrintMore
attribute [local go_sem] max2_int min2_int max_two min_two max_three min_three max_four min_four
set_option linter.unusedVariables false
set_option linter.unusedSimpArgs false
def codec_Reader_Unsigned.f (k : Nat) (s0_0 : ByteArray) (s0_1 : Int) (s0_2 : Int) : Option (Int × ByteArray × Int × Int) := if s0_2 = 0 then ((codec_Reader_Unsigned_1.f k s0_0 s0_1).bind fun bt136 => (if bt136.2.2 = true then (some (bt136.1, s0_0, bt136.2.1, s0_2)) else (some (0, s0_0, s0_1, 2)))) else (some (0, s0_0, s0_1, s0_2))
def codec_Reader_Unsigned.T62004 : Bool × List (List Nat × List Nat) := (true, [([], []), ([], []), ([1], [1]), ([2], [2]), ([3], [3]), ([], []), ([5], [5]), ([6], [6]), ([7], [7]), ([0, 4, 8], [0, 4, 8]), ([9], [9]), ([10], [10]), ([10], [10]), ([10], [10]), ([11, 9, 0, 1, 2, 3, 4, 5, 6, 7, 8, 9, 10, 11], [11]), ([12, 14, 0, 1, 2, 3, 4, 5, 6, 7, 8, 9, 10, 11, 12, 14], [12]), ([13, 15, 0, 1, 2, 3, 4, 5, 6, 7, 8, 9, 10, 11, 12, 13, 14, 15], [13])])
def codec_Reader_Unsigned.B62004 : List Nat := [0, 0, 2, 6, 14, 0, 32, 96, 224, 511, 1023, 2047, 2047, 2047, 4095, 24575, 65535]
theorem codec_Reader_Unsigned.tab62004 : rtab .any (opsOf Tryd.f62 4) = codec_Reader_Unsigned.T62004 := by kernel_rfl
theorem codec_Reader_Unsigned.bits62004 : waitsOk codec_Reader_Unsigned.T62004.2 codec_Reader_Unsigned.B62004 = true := by kernel_rfl
set_option maxHeartbeats 8000000 in
set_option maxRecDepth 100000 in
theorem codec_Reader_Unsigned.calls (k : Nat) (g : Nat) (s0_0 : ByteArray) (s0_1 : Int) (s0_2 : Int) (r1 : Int) (r2 : ByteArray) (r3 : Int) (r4 : Int) (w0 w : World) (hG : Glob w0) (hI : IsS102 w0 w g s0_0 s0_1 s0_2) (hB : Below w0.heap.size w0 w) (h : codec_Reader_Unsigned.f k s0_0 s0_1 s0_2 = some (r1, r2, r3, r4)) :
  Calls Tryd.prog 59 #[.pointer (some ⟨g, 0, none⟩)] w fun e w' => e = .returned (.int .u64 r1) ∧ IsS102 w0 w' g r2 r3 r4 ∧ Below w0.heap.size w0 w' ∧ KeepBut w w' g none := by
 have hmf_ : ∀ (fn : Fn) (first cap : Array Value) (w : World), (Instr.makeFunc fn first cap).run Tryd.prog w = .ok (.func fn first cap) w := fun _ _ _ _ => rfl
 have HG := Aside0.mk hG
 clear hG
 have HI0 := Aside0.mk hI
 have HK := Aside0.mk (KeepBut.refl w g none)
 have HL := Aside0.mk hB.size
 clear hI
 have HW0 := Aside0.mk hB.size
 have HB := Aside0.mk hB
 clear hB
 have H : (if s0_2 = 0 then ((codec_Reader_Unsigned_1.f k s0_0 s0_1).bind fun bt136 => (if bt136.2.2 = true then (some (bt136.1, s0_0, bt136.2.1, s0_2)) else (some (0, s0_0, s0_1, 2)))) else (some (0, s0_0, s0_1, s0_2))) = some (r1, r2, r3, r4) := h
 clear h
 by_cases c2 : s0_2 = 0
 ·rw [if_pos c2] at H
  have c2b0 : (s0_2 == 0) = true := beq_iff_eq.mpr c2
  have c2b1 : (s0_2 != 0) = false := bne_eq_false_iff_eq.mpr c2
  clear c2
  replace H := Option.bind_eq_some_iff.mp H
  obtain ⟨⟨t136, t137, t138⟩, A30, H⟩ := H
  replace H : (if t138 = true then (some (t136, s0_0, t137, s0_2)) else (some (0, s0_0, s0_1, 2))) = some (r1, r2, r3, r4) := H
  have A3 := Aside0.mk A30
  clear A30
  by_cases c4 : t138 = true
  ·subst c4
   have H1 : (some (t136, s0_0, t137, s0_2)) = some (r1, r2, r3, r4) := by rw [if_pos rfl] at H; exact H
   clear H
   have H := H1
   clear H1
   simp only [Option.some.injEq, Prod.mk.injEq] at H
   obtain ⟨rfl, rfl, rfl, rfl⟩ := H
   obtain ⟨HGz5, hgz5⟩ := HI0.out
   have hcz5_0 := cellS102_0 HGz5
   have hcz5_1 := cellS102_1 HGz5
   have hcz5_2 := cellS102_2 HGz5
   have hfz5_0 := blk_frozen HGz5 0
   have hfz5_1 := blk_frozen HGz5 1
   have hfz5_2 := blk_frozen HGz5 2
   clear HGz5 hgz5
   go_enter Tryd.func59, Tryd.ntmps59
   try go_wp2_with (first | (go_at_call 62; go_in) | ((try simp only [Exit.inBlock, Exit.then]); refine bodyPost_end (results_none rfl _ _ _) rfl ?_; simp only []; go_at_K))
   have n0_ := Aside0.mk (IsS102.drew HI0.out)
   have n1_ := Aside0.mk (keep_drew HK.out)
   have n2_ := Aside0.mk (below_drew1 HB.out)
   clear HI0
   clear HK
   clear HB
   have HI0 := n0_
   have HK := n1_
   have HB := n2_
   clear n0_ n1_ n2_
   refine start_ (n := 17) (S := fun w' => w'.cell? ⟨g, 0, none⟩ = some (.string s0_0) ∧ w'.cell? ⟨g, 1, none⟩ = some (.int .i64 s0_1) ∧ w'.cell? ⟨g, 2, none⟩ = some (.int .i64 s0_2)) (ds := []) #[Yn, Yn, Yn, Yn, Yn, Yn, Yn, Yn, Yn, Yn, Yn, Yn, Yn, Yn, Yn, Yn, Yn] (by kernel_rfl) rfl rfl ⟨(blk_cell (Aside0.mk HI0.out.1).out 0).trans rfl, (blk_cell (Aside0.mk HI0.out.1).out 1).trans rfl, (blk_cell (Aside0.mk HI0.out.1).out 2).trans rfl⟩ (fun hHeld => ?_); refine with_tabW codec_Reader_Unsigned.tab62004 codec_Reader_Unsigned.bits62004 (fun HT_ HW_ => ?_)
   generalize w.drew = w6 at HI0 HK HB hHeld ⊢
   refine P3 HT_.out 0 16 ?_ (Bz 17 0x1) ?_ ?_ ?_ ?_
   rotate_left
   ·intro w'
    go_simp
    with_reducible rfl
   rotate_left
   ·simp only [Act.put, Z1, Z2, Z3, i64_w, i32_w]
    rfl
   refine P3 HT_.out 1 17 ?_ (Bz 17 0x3) ?_ ?_ ?_ ?_
   rotate_left
   ·intro w'
    go_simp
    with_reducible rfl
   rotate_left
   ·simp only [Act.put, Z1, Z2, Z3, i64_w, i32_w]
    rfl
   refine P3 HT_.out 2 18 ?_ (Bz 17 0x7) ?_ ?_ ?_ ?_
   rotate_left
   ·intro w'
    go_simp
    with_reducible rfl
   rotate_left
   ·simp only [Act.put, Z1, Z2, Z3, i64_w, i32_w]
    rfl
   refine P3 HT_.out 3 19 ?_ (Bz 17 0xf) ?_ ?_ ?_ ?_
   rotate_left
   ·intro w'
    go_simp
    with_reducible rfl
   rotate_left
   ·simp only [Act.put, Z1, Z2, Z3, i64_w, i32_w]
    rfl
   refine P3 HT_.out 5 21 ?_ (Bz 17 0x2f) ?_ ?_ ?_ ?_
   rotate_left
   ·intro w'
    go_simp
    with_reducible rfl
   rotate_left
   ·simp only [Act.put, Z1, Z2, Z3, i64_w, i32_w]
    rfl
   refine P3 HT_.out 6 22 ?_ (Bz 17 0x6f) ?_ ?_ ?_ ?_
   rotate_left
   ·intro w'
    go_simp
    with_reducible rfl
   rotate_left
   ·simp only [Act.put, Z1, Z2, Z3, i64_w, i32_w]
    rfl
   refine P3 HT_.out 7 23 ?_ (Bz 17 0xef) ?_ ?_ ?_ ?_
   rotate_left
   ·intro w'
    go_simp
    with_reducible rfl
   rotate_left
   ·simp only [Act.put, Z1, Z2, Z3, i64_w, i32_w]
    rfl
   refine P6 HT_.out HW_.out 4 20 ?_ (Bz 17 0xff) ?_ hHeld ?_ ?_ ?_
   rotate_left
   ·rintro w' ⟨s0, s1, s2⟩
    go_simp
    with_reducible rfl
   rotate_left
   ·simp only [Act.put, Z1, Z2, Z3, i64_w, i32_w]
    rfl
   refine P6 HT_.out HW_.out 8 24 ?_ (Bz 17 0x1ff) ?_ hHeld ?_ ?_ ?_
   rotate_left
   ·rintro w' ⟨s0, s1, s2⟩
    go_simp
    with_reducible rfl
   rotate_left
   ·simp only [Act.put, Z1, Z2, Z3, i64_w, i32_w]
    rfl
   refine one_ (i := 9) (N := some 25) #[Y, Y, Y, Y, Y, Y, Y, Y, Y, Y, Yn, Yn, Yn, Yn, Yn, Yn, Yn] rfl rfl (one_of HT_.out (by kernel_rfl)) (by decide) (fun K hK => ?_)
   refine goesT_ Tryd.func73 (by kernel_rfl) rfl #[.string s0_0, .int .i64 s0_1] (by rfl) rfl rfl rfl (by (try simp only [List.map_toArray, List.map_cons, List.map_nil]); first | done | rfl | (simp only [List.length_drop, List.length_take]; rfl)) ?_
   with_reducible refine (codec_Reader_Unsigned_1.calls k s0_0 s0_1 t136 t137 true _ ?side99  A3.out).mono ?_
   (case side99 => first | exact HG.out | exact Glob.below HG.out (by repeat (first | (with_reducible first | exact HB.out | apply below_alloc | apply pw_below_drewN | apply below_drew1 | refine below_set ?_ (IsS102.ge HI0.out)) | exact HB.out)))
   rintro e w7 ⟨rfl, hb⟩
   refine ⟨_, rfl, ?_⟩
   have n0_ := Aside0.mk (IsS102.below (by repeat (first | (with_reducible first | exact HI0.out | apply IsS102.alloc | apply IsS102.drewN | apply IsS102.drew | apply IsS102.set_0 | apply IsS102.set_1 | apply IsS102.set_2) | exact HI0.out)) hb)
   have n1_ := Aside0.mk (KeepBut.trans (by repeat (first | (with_reducible first | exact HK.out | apply KeepBut.set_ | apply keep_drewN | apply keep_drew | apply keep_alloc) | exact HK.out)) (KeepBut.of_below hb g none) (.inl rfl))
   have n2_ := Aside0.mk (below_step (by repeat (first | (with_reducible first | exact HB.out | apply below_alloc | apply pw_below_drewN | apply below_drew1 | refine below_set ?_ (IsS102.ge HI0.out)) | exact HB.out)) hb)
   clear HI0
   clear HK
   clear HB
   have HI0 := n0_
   have HK := n1_
   have HB := n2_
   clear n0_ n1_ n2_
   (try clear hb)
   (try clear hb2)
   (try clear hk)
   (try clear hi)
   refine hK.out _ _ ⟨(blk_cell (Aside0.mk HI0.out.1).out 0).trans rfl, (blk_cell (Aside0.mk HI0.out.1).out 1).trans rfl, (blk_cell (Aside0.mk HI0.out.1).out 2).trans rfl⟩ (fun hHeld => ?_)
   clear hK K
   refine norm_ (a' := ?_) ?_ ?_
   rotate_left
   ·show Act.put _ (some 25) _ = _
    simp only [Act.put, Z1, Z2, Z3, i64_w, i32_w]
    rfl
   refine P3 HT_.out 10 15 ?_ (Bz 17 0x7ff) ?_ ?_ ?_ ?_
   rotate_left
   ·intro w'
    go_simp
    with_reducible rfl
   rotate_left
   ·simp only [Act.put, Z1, Z2, Z3, i64_w, i32_w]
    rfl
   refine P3 HT_.out 11 26 ?_ (Bz 17 0xfff) ?_ ?_ ?_ ?_
   rotate_left
   ·intro w'
    go_simp
    with_reducible rfl
   rotate_left
   ·simp only [Act.put, Z1, Z2, Z3, i64_w, i32_w]
    rfl
   refine P3 HT_.out 12 27 ?_ (Bz 17 0x1fff) ?_ ?_ ?_ ?_
   rotate_left
   ·intro w'
    go_simp
    with_reducible rfl
   rotate_left
   ·simp only [Act.put, Z1, Z2, Z3, i64_w, i32_w]
    rfl
   refine P3 HT_.out 13 28 ?_ (Bz 17 0x3fff) ?_ ?_ ?_ ?_
   rotate_left
   ·intro w'
    go_simp
    with_reducible rfl
   rotate_left
   ·simp only [Act.put, Z1, Z2, Z3, i64_w, i32_w]
    rfl
   refine P3 HT_.out 14 6 ?_ (Bz 17 0x7fff) ?_ ?_ ?_ ?_
   rotate_left
   ·intro w'
    go_simp
    with_reducible rfl
   rotate_left
   ·simp only [Act.put, Z1, Z2, Z3, i64_w, i32_w]
    rfl
   refine P3 HT_.out 15 7 ?_ (Bz 17 0xffff) ?_ ?_ ?_ ?_
   rotate_left
   ·intro w'
    go_simp
    with_reducible rfl
   rotate_left
   ·simp only [Act.put, Z1, Z2, Z3, i64_w, i32_w]
    rfl
   refine P3 HT_.out 16 8 ?_ (Bz 17 0x1ffff) ?_ ?_ ?_ ?_
   rotate_left
   ·intro w'
    go_simp
    with_reducible rfl
   rotate_left
   ·simp only [Act.put, Z1, Z2, Z3, i64_w, i32_w]
    rfl
   refine done_ (done_of HT_.out (by kernel_rfl)) ?_
   obtain ⟨HGz8, hgz8⟩ := HI0.out
   have hcz8_0 := cellS102_0 HGz8
   have hcz8_1 := cellS102_1 HGz8
   have hcz8_2 := cellS102_2 HGz8
   have hfz8_0 := blk_frozen HGz8 0
   have hfz8_1 := blk_frozen HGz8 1
   have hfz8_2 := blk_frozen HGz8 2
   clear HGz8 hgz8
   try go_wp2_with (first | (go_at_call 62; go_in) | ((try simp only [Exit.inBlock, Exit.then]); refine bodyPost_end (results_none rfl _ _ _) rfl ?_; simp only []; go_at_K))
   go_ret
   exact ⟨by first | rfl | (simp [errW_none, errW_some] <;> rfl) | (simp [*, errW_none, errW_some] <;> rfl), by repeat (first | (with_reducible first | exact HI0.out | apply IsS102.alloc | apply IsS102.drewN | apply IsS102.drew | apply IsS102.set_0 | apply IsS102.set_1 | apply IsS102.set_2) | exact HI0.out), by repeat (first | (with_reducible first | exact HB.out | apply below_alloc | apply pw_below_drewN | apply below_drew1 | refine below_set ?_ (IsS102.ge HI0.out)) | exact HB.out), by repeat (first | (with_reducible first | exact HK.out | apply KeepBut.set_ | apply keep_drewN | apply keep_drew | apply keep_alloc) | exact HK.out)⟩
  ·replace c4 := Bool.eq_false_iff.mpr c4
   subst c4
   have H1 : (some (0, s0_0, s0_1, 2)) = some (r1, r2, r3, r4) := by rw [if_neg (show ¬ (false = true) by decide)] at H; exact H
   clear H
   have H := H1
   clear H1
   simp only [Option.some.injEq, Prod.mk.injEq] at H
   obtain ⟨rfl, rfl, rfl, rfl⟩ := H
   obtain ⟨HGz9, hgz9⟩ := HI0.out
   have hcz9_0 := cellS102_0 HGz9
   have hcz9_1 := cellS102_1 HGz9
   have hcz9_2 := cellS102_2 HGz9
   have hfz9_0 := blk_frozen HGz9 0
   have hfz9_1 := blk_frozen HGz9 1
   have hfz9_2 := blk_frozen HGz9 2
   clear HGz9 hgz9
   go_enter Tryd.func59, Tryd.ntmps59
   try go_wp2_with (first | (go_at_call 62; go_in) | ((try simp only [Exit.inBlock, Exit.then]); refine bodyPost_end (results_none rfl _ _ _) rfl ?_; simp only []; go_at_K))
   have n0_ := Aside0.mk (IsS102.drew HI0.out)
   have n1_ := Aside0.mk (keep_drew HK.out)
   have n2_ := Aside0.mk (below_drew1 HB.out)
   clear HI0
   clear HK
   clear HB
   have HI0 := n0_
   have HK := n1_
   have HB := n2_
   clear n0_ n1_ n2_
   refine start_ (n := 17) (S := fun w' => w'.cell? ⟨g, 0, none⟩ = some (.string s0_0) ∧ w'.cell? ⟨g, 1, none⟩ = some (.int .i64 s0_1) ∧ w'.cell? ⟨g, 2, none⟩ = some (.int .i64 s0_2)) (ds := []) #[Yn, Yn, Yn, Yn, Yn, Yn, Yn, Yn, Yn, Yn, Yn, Yn, Yn, Yn, Yn, Yn, Yn] (by kernel_rfl) rfl rfl ⟨(blk_cell (Aside0.mk HI0.out.1).out 0).trans rfl, (blk_cell (Aside0.mk HI0.out.1).out 1).trans rfl, (blk_cell (Aside0.mk HI0.out.1).out 2).trans rfl⟩ (fun hHeld => ?_); refine with_tabW codec_Reader_Unsigned.tab62004 codec_Reader_Unsigned.bits62004 (fun HT_ HW_ => ?_)
   generalize w.drew = w10 at HI0 HK HB hHeld ⊢
   refine P3 HT_.out 0 16 ?_ (Bz 17 0x1) ?_ ?_ ?_ ?_
   rotate_left
   ·intro w'
    go_simp
    with_reducible rfl
   rotate_left
   ·simp only [Act.put, Z1, Z2, Z3, i64_w, i32_w]
    rfl
   refine P3 HT_.out 1 17 ?_ (Bz 17 0x3) ?_ ?_ ?_ ?_
   rotate_left
   ·intro w'
    go_simp
    with_reducible rfl
   rotate_left
   ·simp only [Act.put, Z1, Z2, Z3, i64_w, i32_w]
    rfl
   refine P3 HT_.out 2 18 ?_ (Bz 17 0x7) ?_ ?_ ?_ ?_
   rotate_left
   ·intro w'
    go_simp
    with_reducible rfl
   rotate_left
   ·simp only [Act.put, Z1, Z2, Z3, i64_w, i32_w]
    rfl
   refine P3 HT_.out 3 19 ?_ (Bz 17 0xf) ?_ ?_ ?_ ?_
   rotate_left
   ·intro w'
    go_simp
    with_reducible rfl
   rotate_left
   ·simp only [Act.put, Z1, Z2, Z3, i64_w, i32_w]
    rfl
   refine P3 HT_.out 5 21 ?_ (Bz 17 0x2f) ?_ ?_ ?_ ?_
   rotate_left
   ·intro w'
    go_simp
    with_reducible rfl
   rotate_left
   ·simp only [Act.put, Z1, Z2, Z3, i64_w, i32_w]
    rfl
   refine P3 HT_.out 6 22 ?_ (Bz 17 0x6f) ?_ ?_ ?_ ?_
   rotate_left
   ·intro w'
    go_simp
    with_reducible rfl
   rotate_left
   ·simp only [Act.put, Z1, Z2, Z3, i64_w, i32_w]
    rfl
   refine P3 HT_.out 7 23 ?_ (Bz 17 0xef) ?_ ?_ ?_ ?_
   rotate_left
   ·intro w'
    go_simp
    with_reducible rfl
   rotate_left
   ·simp only [Act.put, Z1, Z2, Z3, i64_w, i32_w]
    rfl
   refine P6 HT_.out HW_.out 4 20 ?_ (Bz 17 0xff) ?_ hHeld ?_ ?_ ?_
   rotate_left
   ·rintro w' ⟨s0, s1, s2⟩
    go_simp
    with_reducible rfl
   rotate_left
   ·simp only [Act.put, Z1, Z2, Z3, i64_w, i32_w]
    rfl
   refine P6 HT_.out HW_.out 8 24 ?_ (Bz 17 0x1ff) ?_ hHeld ?_ ?_ ?_
   rotate_left
   ·rintro w' ⟨s0, s1, s2⟩
    go_simp
    with_reducible rfl
   rotate_left
   ·simp only [Act.put, Z1, Z2, Z3, i64_w, i32_w]
    rfl
   refine one_ (i := 9) (N := some 25) #[Y, Y, Y, Y, Y, Y, Y, Y, Y, Y, Yn, Yn, Yn, Yn, Yn, Yn, Yn] rfl rfl (one_of HT_.out (by kernel_rfl)) (by decide) (fun K hK => ?_)
   refine goesT_ Tryd.func73 (by kernel_rfl) rfl #[.string s0_0, .int .i64 s0_1] (by rfl) rfl rfl rfl (by (try simp only [List.map_toArray, List.map_cons, List.map_nil]); first | done | rfl | (simp only [List.length_drop, List.length_take]; rfl)) ?_
   with_reducible refine (codec_Reader_Unsigned_1.calls k s0_0 s0_1 t136 t137 false _ ?side99  A3.out).mono ?_
   (case side99 => first | exact HG.out | exact Glob.below HG.out (by repeat (first | (with_reducible first | exact HB.out | apply below_alloc | apply pw_below_drewN | apply below_drew1 | refine below_set ?_ (IsS102.ge HI0.out)) | exact HB.out)))
   rintro e w11 ⟨rfl, hb⟩
   refine ⟨_, rfl, ?_⟩
   have n0_ := Aside0.mk (IsS102.below (by repeat (first | (with_reducible first | exact HI0.out | apply IsS102.alloc | apply IsS102.drewN | apply IsS102.drew | apply IsS102.set_0 | apply IsS102.set_1 | apply IsS102.set_2) | exact HI0.out)) hb)
   have n1_ := Aside0.mk (KeepBut.trans (by repeat (first | (with_reducible first | exact HK.out | apply KeepBut.set_ | apply keep_drewN | apply keep_drew | apply keep_alloc) | exact HK.out)) (KeepBut.of_below hb g none) (.inl rfl))
   have n2_ := Aside0.mk (below_step (by repeat (first | (with_reducible first | exact HB.out | apply below_alloc | apply pw_below_drewN | apply below_drew1 | refine below_set ?_ (IsS102.ge HI0.out)) | exact HB.out)) hb)
   clear HI0
   clear HK
   clear HB
   have HI0 := n0_
   have HK := n1_
   have HB := n2_
   clear n0_ n1_ n2_
   (try clear hb)
   (try clear hb2)
   (try clear hk)
   (try clear hi)
   refine hK.out _ _ ⟨(blk_cell (Aside0.mk HI0.out.1).out 0).trans rfl, (blk_cell (Aside0.mk HI0.out.1).out 1).trans rfl, (blk_cell (Aside0.mk HI0.out.1).out 2).trans rfl⟩ (fun hHeld => ?_)
   clear hK K
   refine norm_ (a' := ?_) ?_ ?_
   rotate_left
   ·show Act.put _ (some 25) _ = _
    simp only [Act.put, Z1, Z2, Z3, i64_w, i32_w]
    rfl
   refine P3 HT_.out 10 15 ?_ (Bz 17 0x7ff) ?_ ?_ ?_ ?_
   rotate_left
   ·intro w'
    go_simp
    with_reducible rfl
   rotate_left
   ·simp only [Act.put, Z1, Z2, Z3, i64_w, i32_w]
    rfl
   refine P3 HT_.out 11 26 ?_ (Bz 17 0xfff) ?_ ?_ ?_ ?_
   rotate_left
   ·intro w'
    go_simp
    with_reducible rfl
   rotate_left
   ·simp only [Act.put, Z1, Z2, Z3, i64_w, i32_w]
    rfl
   refine P3 HT_.out 12 27 ?_ (Bz 17 0x1fff) ?_ ?_ ?_ ?_
   rotate_left
   ·intro w'
    go_simp
    with_reducible rfl
   rotate_left
   ·simp only [Act.put, Z1, Z2, Z3, i64_w, i32_w]
    rfl
   refine P3 HT_.out 13 28 ?_ (Bz 17 0x3fff) ?_ ?_ ?_ ?_
   rotate_left
   ·intro w'
    go_simp
    with_reducible rfl
   rotate_left
   ·simp only [Act.put, Z1, Z2, Z3, i64_w, i32_w]
    rfl
   refine P3 HT_.out 14 6 ?_ (Bz 17 0x7fff) ?_ ?_ ?_ ?_
   rotate_left
   ·intro w'
    go_simp
    with_reducible rfl
   rotate_left
   ·simp only [Act.put, Z1, Z2, Z3, i64_w, i32_w]
    rfl
   refine P3 HT_.out 15 7 ?_ (Bz 17 0xffff) ?_ ?_ ?_ ?_
   rotate_left
   ·intro w'
    go_simp
    with_reducible rfl
   rotate_left
   ·simp only [Act.put, Z1, Z2, Z3, i64_w, i32_w]
    rfl
   refine P3 HT_.out 16 8 ?_ (Bz 17 0x1ffff) ?_ ?_ ?_ ?_
   rotate_left
   ·intro w'
    go_simp
    with_reducible rfl
   rotate_left
   ·simp only [Act.put, Z1, Z2, Z3, i64_w, i32_w]
    rfl
   refine done_ (done_of HT_.out (by kernel_rfl)) ?_
   obtain ⟨HGz12, hgz12⟩ := HI0.out
   have hcz12_0 := cellS102_0 HGz12
   have hcz12_1 := cellS102_1 HGz12
   have hcz12_2 := cellS102_2 HGz12
   have hfz12_0 := blk_frozen HGz12 0
   have hfz12_1 := blk_frozen HGz12 1
   have hfz12_2 := blk_frozen HGz12 2
   clear HGz12 hgz12
   try go_wp2_with (first | (go_at_call 62; go_in) | ((try simp only [Exit.inBlock, Exit.then]); refine bodyPost_end (results_none rfl _ _ _) rfl ?_; simp only []; go_at_K))
   go_ret
   exact ⟨by first | rfl | (simp [errW_none, errW_some] <;> rfl) | (simp [*, errW_none, errW_some] <;> rfl), by repeat (first | (with_reducible first | exact HI0.out | apply IsS102.alloc | apply IsS102.drewN | apply IsS102.drew | apply IsS102.set_0 | apply IsS102.set_1 | apply IsS102.set_2) | exact HI0.out), by repeat (first | (with_reducible first | exact HB.out | apply below_alloc | apply pw_below_drewN | apply below_drew1 | refine below_set ?_ (IsS102.ge HI0.out)) | exact HB.out), by repeat (first | (with_reducible first | exact HK.out | apply KeepBut.set_ | apply keep_drewN | apply keep_drew | apply keep_alloc) | exact HK.out)⟩
 ·rw [if_neg c2] at H
  have c2b0 : (s0_2 == 0) = false := beq_eq_false_iff_ne.mpr c2
  have c2b1 : (s0_2 != 0) = true := bne_iff_ne.mpr c2
  simp only [Option.some.injEq, Prod.mk.injEq] at H
  obtain ⟨rfl, rfl, rfl, rfl⟩ := H
  obtain ⟨HGz13, hgz13⟩ := HI0.out
  have hcz13_0 := cellS102_0 HGz13
  have hcz13_1 := cellS102_1 HGz13
  have hcz13_2 := cellS102_2 HGz13
  have hfz13_0 := blk_frozen HGz13 0
  have hfz13_1 := blk_frozen HGz13 1
  have hfz13_2 := blk_frozen HGz13 2
  clear HGz13 hgz13
  go_enter Tryd.func59, Tryd.ntmps59
  go_wp2_with (first | (go_at_call 62; go_in) | ((try simp only [Exit.inBlock, Exit.then]); refine bodyPost_end (results_none rfl _ _ _) rfl ?_; simp only []; go_at_K))
  go_ret
  exact ⟨by first | rfl | (simp [errW_none, errW_some] <;> rfl) | (simp [*, errW_none, errW_some] <;> rfl), by repeat (first | (with_reducible first | exact HI0.out | apply IsS102.alloc | apply IsS102.drewN | apply IsS102.drew | apply IsS102.set_0 | apply IsS102.set_1 | apply IsS102.set_2) | exact HI0.out), by repeat (first | (with_reducible first | exact HB.out | apply below_alloc | apply pw_below_drewN | apply below_drew1 | refine below_set ?_ (IsS102.ge HI0.out)) | exact HB.out), by repeat (first | (with_reducible first | exact HK.out | apply KeepBut.set_ | apply keep_drewN | apply keep_drew | apply keep_alloc) | exact HK.out)⟩
end Go.Proofs.YtbccjcdmpiolpaaDoor.T
end
section
namespace Go.Proofs.YtbccjcdmpiolpaaDoor.T
open Go.RowKit Go.Proofs.YtbccjcdmpiolpaaDoorW.PrintWords Go.Proofs.YtbccjcdmpiolpaaDoorW.PrintLast Go.Proofs.YtbccjcdmpiolpaaDoorW.PrintMore
attribute [local go_sem] max2_int min2_int max_two min_two max_three min_three max_four min_four
set_option linter.unusedVariables false
set_option linter.unusedSimpArgs false
def codec_Reader_Signed_1.f (k : Nat) (a0 : ByteArray) (a1 : Int) : Option (Int × Int × Bool) := (codec_raw.f k a0 a1 4).bind fun bt139 => (some (bt139.1, bt139.2.1, bt139.2.2))
set_option maxHeartbeats 8000000 in
set_option maxRecDepth 100000 in
theorem codec_Reader_Signed_1.calls (k : Nat) (a0 : ByteArray) (a1 : Int) (r1 : Int) (r2 : Int) (r3 : Bool) (w : World) (hG : Glob w) (h : codec_Reader_Signed_1.f k a0 a1 = some (r1, r2, r3)) :
  Calls Tryd.prog 63 #[.string a0, .int .i64 a1] w fun e w' => e = .returned (.tuple #[.int .u64 r1, .int .i64 r2, .bool r3]) ∧ Below w.heap.size w w' := by
 have HG := Aside0.mk hG
 clear hG
 have HB := Aside0.mk (Below.refl w.heap.size w)
 have H : ((codec_raw.f k a0 a1 4).bind fun bt139 => (some (bt139.1, bt139.2.1, bt139.2.2))) = some (r1, r2, r3) := h
 clear h
 replace H := Option.bind_eq_some_iff.mp H
 obtain ⟨⟨t139, t140, t141⟩, A30, H⟩ := H
 replace H : (some (t139, t140, t141)) = some (r1, r2, r3) := H
 have A3 := Aside0.mk A30
 clear A30
 simp only [Option.some.injEq, Prod.mk.injEq] at H
 obtain ⟨rfl, rfl, rfl⟩ := H
 go_enter Tryd.func63, Tryd.ntmps63
 go_wp2_with (first | ((with_reducible refine gate_callee (f := 64) rfl ?_); refine goesL_ (some 9) rfl rfl Tryd.func64 (by kernel_rfl) rfl #[.string a0, .int .i64 a1, .int .i64 4] rfl (by (try simp only [List.map_toArray, List.map_cons, List.map_nil]); first | done | rfl | (simp only [List.length_drop, List.length_take]; rfl)) ?_; (with_reducible refine (codec_raw.calls k a0 a1 4 t139 t140 t141 _ ?side99  A3.out).mono ?_); (case side99 => first | exact HG.out | exact Glob.below HG.out (by repeat (first | (with_reducible first | exact HB.out | apply below_alloc | apply pw_below_drewN | apply below_drew1) | exact HB.out))); rintro e w4 ⟨rfl, hb⟩; refine ⟨_, rfl, ?_⟩; have n0_ := Aside0.mk (below_step (by repeat (first | (with_reducible first | exact HB.out | apply below_alloc | apply pw_below_drewN | apply below_drew1) | exact HB.out)) hb); clear HB; have HB := n0_; clear n0_; (try clear hb); (try clear hb2); (try clear hk); (try clear hi)))
 go_ret3
 exact ⟨by first | rfl | (simp [errW_none, errW_some] <;> rfl) | (simp [*, errW_none, errW_some] <;> rfl), by repeat (first | (with_reducible first | exact HB.out | apply below_alloc | apply pw_below_drewN | apply below_drew1) | exact HB.out)⟩
end Go.Proofs.YtbccjcdmpiolpaaDoor.T
end
section
namespace Go.Proofs.YtbccjcdmpiolpaaDoor.T
open Go.RowKit Go.Proofs.YtbccjcdmpiolpaaDoorW.PrintWords Go.Proofs.YtbccjcdmpiolpaaDoorW.PrintLast Go.Proofs.YtbccjcdmpiolpaaDoorW.PrintMore
attribute [local go_sem] max2_int min2_int max_two min_two max_three min_three max_four min_four
set_option linter.unusedVariables false
set_option linter.unusedSimpArgs false
def codec_Reader_Signed.f (k : Nat) (s0_0 : ByteArray) (s0_1 : Int) (s0_2 : Int) : Option (Int × ByteArray × Int × Int) := if s0_2 = 0 then ((codec_Reader_Signed_1.f k s0_0 s0_1).bind fun bt142 => (if bt142.2.2 = true then (some (wrap64 (bt142.1), s0_0, bt142.2.1, s0_2)) else (some (0, s0_0, s0_1, 2)))) else (some (0, s0_0, s0_1, s0_2))
def codec_Reader_Signed.T62004 : Bool × List (List Nat × List Nat) := (true, [([], []), ([], []), ([1], [1]), ([2], [2]), ([3], [3]), ([], []), ([5], [5]), ([6], [6]), ([7], [7]), ([0, 4, 8], [0, 4, 8]), ([9], [9]), ([10], [10]), ([10], [10]), ([10], [10]), ([11, 9, 0, 1, 2, 3, 4, 5, 6, 7, 8, 9, 10, 11], [11]), ([12, 14, 0, 1, 2, 3, 4, 5, 6, 7, 8, 9, 10, 11, 12, 14], [12]), ([13, 15, 0, 1, 2, 3, 4, 5, 6, 7, 8, 9, 10, 11, 12, 13, 14, 15], [13])])
def codec_Reader_Signed.B62004 : List Nat := [0, 0, 2, 6, 14, 0, 32, 96, 224, 511, 1023, 2047, 2047, 2047, 4095, 24575, 65535]
theorem codec_Reader_Signed.tab62004 : rtab .any (opsOf Tryd.f62 4) = codec_Reader_Signed.T62004 := by kernel_rfl
theorem codec_Reader_Signed.bits62004 : waitsOk codec_Reader_Signed.T62004.2 codec_Reader_Signed.B62004 = true := by kernel_rfl
set_option maxHeartbeats 8000000 in
set_option maxRecDepth 100000 in
theorem codec_Reader_Signed.calls (k : Nat) (g : Nat) (s0_0 : ByteArray) (s0_1 : Int) (s0_2 : Int) (r1 : Int) (r2 : ByteArray) (r3 : Int) (r4 : Int) (w0 w : World) (hG : Glob w0) (hI : IsS102 w0 w g s0_0 s0_1 s0_2) (hB : Below w0.heap.size w0 w) (h : codec_Reader_Signed.f k s0_0 s0_1 s0_2 = some (r1, r2, r3, r4)) :
  Calls Tryd.prog 39 #[.pointer (some ⟨g, 0, none⟩)] w fun e w' => e = .returned (.int .i64 r1) ∧ IsS102 w0 w' g r2 r3 r4 ∧ Below w0.heap.size w0 w' ∧ KeepBut w w' g none := by
 have hmf_ : ∀ (fn : Fn) (first cap : Array Value) (w : World), (Instr.makeFunc fn first cap).run Tryd.prog w = .ok (.func fn first cap) w := fun _ _ _ _ => rfl
 have HG := Aside0.mk hG
 clear hG
 have HI0 := Aside0.mk hI
 have HK := Aside0.mk (KeepBut.refl w g none)
 have HL := Aside0.mk hB.size
 clear hI
 have HW0 := Aside0.mk hB.size
 have HB := Aside0.mk hB
 clear hB
 have H : (if s0_2 = 0 then ((codec_Reader_Signed_1.f k s0_0 s0_1).bind fun bt142 => (if bt142.2.2 = true then (some (wrap64 (bt142.1), s0_0, bt142.2.1, s0_2)) else (some (0, s0_0, s0_1, 2)))) else (some (0, s0_0, s0_1, s0_2))) = some (r1, r2, r3, r4) := h
 clear h
 by_cases c2 : s0_2 = 0
 ·rw [if_pos c2] at H
  have c2b0 : (s0_2 == 0) = true := beq_iff_eq.mpr c2
  have c2b1 : (s0_2 != 0) = false := bne_eq_false_iff_eq.mpr c2
  clear c2
  replace H := Option.bind_eq_some_iff.mp H
  obtain ⟨⟨t142, t143, t144⟩, A30, H⟩ := H
  replace H : (if t144 = true then (some (wrap64 (t142), s0_0, t143, s0_2)) else (some (0, s0_0, s0_1, 2))) = some (r1, r2, r3, r4) := H
  have A3 := Aside0.mk A30
  clear A30
  by_cases c4 : t144 = true
  ·subst c4
   have H1 : (some (wrap64 (t142), s0_0, t143, s0_2)) = some (r1, r2, r3, r4) := by rw [if_pos rfl] at H; exact H
   clear H
   have H := H1
   clear H1
   simp only [Option.some.injEq, Prod.mk.injEq] at H
   obtain ⟨rfl, rfl, rfl, rfl⟩ := H
   obtain ⟨HGz5, hgz5⟩ := HI0.out
   have hcz5_0 := cellS102_0 HGz5
   have hcz5_1 := cellS102_1 HGz5
   have hcz5_2 := cellS102_2 HGz5
   have hfz5_0 := blk_frozen HGz5 0
   have hfz5_1 := blk_frozen HGz5 1
   have hfz5_2 := blk_frozen HGz5 2
   clear HGz5 hgz5
   go_enter Tryd.func39, Tryd.ntmps39
   try go_wp2_with (first | (go_at_call 62; go_in) | ((try simp only [Exit.inBlock, Exit.then]); refine bodyPost_end (results_none rfl _ _ _) rfl ?_; simp only []; go_at_K))
   have n0_ := Aside0.mk (IsS102.drew HI0.out)
   have n1_ := Aside0.mk (keep_drew HK.out)
   have n2_ := Aside0.mk (below_drew1 HB.out)
   clear HI0
   clear HK
   clear HB
   have HI0 := n0_
   have HK := n1_
   have HB := n2_
   clear n0_ n1_ n2_
   refine start_ (n := 17) (S := fun w' => w'.cell? ⟨g, 0, none⟩ = some (.string s0_0) ∧ w'.cell? ⟨g, 1, none⟩ = some (.int .i64 s0_1) ∧ w'.cell? ⟨g, 2, none⟩ = some (.int .i64 s0_2)) (ds := []) #[Yn, Yn, Yn, Yn, Yn, Yn, Yn, Yn, Yn, Yn, Yn, Yn, Yn, Yn, Yn, Yn, Yn] (by kernel_rfl) rfl rfl ⟨(blk_cell (Aside0.mk HI0.out.1).out 0).trans rfl, (blk_cell (Aside0.mk HI0.out.1).out 1).trans rfl, (blk_cell (Aside0.mk HI0.out.1).out 2).trans rfl⟩ (fun hHeld => ?_); refine with_tabW codec_Reader_Signed.tab62004 codec_Reader_Signed.bits62004 (fun HT_ HW_ => ?_)
   generalize w.drew = w6 at HI0 HK HB hHeld ⊢
   refine P3 HT_.out 0 16 ?_ (Bz 17 0x1) ?_ ?_ ?_ ?_
   rotate_left
   ·intro w'
    go_simp
    with_reducible rfl
   rotate_left
   ·simp only [Act.put, Z1, Z2, Z3, i64_w, i32_w]
    rfl
   refine P3 HT_.out 1 17 ?_ (Bz 17 0x3) ?_ ?_ ?_ ?_
   rotate_left
   ·intro w'
    go_simp
    with_reducible rfl
   rotate_left
   ·simp only [Act.put, Z1, Z2, Z3, i64_w, i32_w]
    rfl
   refine P3 HT_.out 2 18 ?_ (Bz 17 0x7) ?_ ?_ ?_ ?_
   rotate_left
   ·intro w'
    go_simp
    with_reducible rfl
   rotate_left
   ·simp only [Act.put, Z1, Z2, Z3, i64_w, i32_w]
    rfl
   refine P3 HT_.out 3 19 ?_ (Bz 17 0xf) ?_ ?_ ?_ ?_
   rotate_left
   ·intro w'
    go_simp
    with_reducible rfl
   rotate_left
   ·simp only [Act.put, Z1, Z2, Z3, i64_w, i32_w]
    rfl
   refine P3 HT_.out 5 21 ?_ (Bz 17 0x2f) ?_ ?_ ?_ ?_
   rotate_left
   ·intro w'
    go_simp
    with_reducible rfl
   rotate_left
   ·simp only [Act.put, Z1, Z2, Z3, i64_w, i32_w]
    rfl
   refine P3 HT_.out 6 22 ?_ (Bz 17 0x6f) ?_ ?_ ?_ ?_
   rotate_left
   ·intro w'
    go_simp
    with_reducible rfl
   rotate_left
   ·simp only [Act.put, Z1, Z2, Z3, i64_w, i32_w]
    rfl
   refine P3 HT_.out 7 23 ?_ (Bz 17 0xef) ?_ ?_ ?_ ?_
   rotate_left
   ·intro w'
    go_simp
    with_reducible rfl
   rotate_left
   ·simp only [Act.put, Z1, Z2, Z3, i64_w, i32_w]
    rfl
   refine P6 HT_.out HW_.out 4 20 ?_ (Bz 17 0xff) ?_ hHeld ?_ ?_ ?_
   rotate_left
   ·rintro w' ⟨s0, s1, s2⟩
    go_simp
    with_reducible rfl
   rotate_left
   ·simp only [Act.put, Z1, Z2, Z3, i64_w, i32_w]
    rfl
   refine P6 HT_.out HW_.out 8 24 ?_ (Bz 17 0x1ff) ?_ hHeld ?_ ?_ ?_
   rotate_left
   ·rintro w' ⟨s0, s1, s2⟩
    go_simp
    with_reducible rfl
   rotate_left
   ·simp only [Act.put, Z1, Z2, Z3, i64_w, i32_w]
    rfl
   refine one_ (i := 9) (N := some 25) #[Y, Y, Y, Y, Y, Y, Y, Y, Y, Y, Yn, Yn, Yn, Yn, Yn, Yn, Yn] rfl rfl (one_of HT_.out (by kernel_rfl)) (by decide) (fun K hK => ?_)
   refine goesT_ Tryd.func63 (by kernel_rfl) rfl #[.string s0_0, .int .i64 s0_1] (by rfl) rfl rfl rfl (by (try simp only [List.map_toArray, List.map_cons, List.map_nil]); first | done | rfl | (simp only [List.length_drop, List.length_take]; rfl)) ?_
   with_reducible refine (codec_Reader_Signed_1.calls k s0_0 s0_1 t142 t143 true _ ?side99  A3.out).mono ?_
   (case side99 => first | exact HG.out | exact Glob.below HG.out (by repeat (first | (with_reducible first | exact HB.out | apply below_alloc | apply pw_below_drewN | apply below_drew1 | refine below_set ?_ (IsS102.ge HI0.out)) | exact HB.out)))
   rintro e w7 ⟨rfl, hb⟩
   refine ⟨_, rfl, ?_⟩
   have n0_ := Aside0.mk (IsS102.below (by repeat (first | (with_reducible first | exact HI0.out | apply IsS102.alloc | apply IsS102.drewN | apply IsS102.drew | apply IsS102.set_0 | apply IsS102.set_1 | apply IsS102.set_2) | exact HI0.out)) hb)
   have n1_ := Aside0.mk (KeepBut.trans (by repeat (first | (with_reducible first | exact HK.out | apply KeepBut.set_ | apply keep_drewN | apply keep_drew | apply keep_alloc) | exact HK.out)) (KeepBut.of_below hb g none) (.inl rfl))
   have n2_ := Aside0.mk (below_step (by repeat (first | (with_reducible first | exact HB.out | apply below_alloc | apply pw_below_drewN | apply below_drew1 | refine below_set ?_ (IsS102.ge HI0.out)) | exact HB.out)) hb)
   clear HI0
   clear HK
   clear HB
   have HI0 := n0_
   have HK := n1_
   have HB := n2_
   clear n0_ n1_ n2_
   (try clear hb)
   (try clear hb2)
   (try clear hk)
   (try clear hi)
   refine hK.out _ _ ⟨(blk_cell (Aside0.mk HI0.out.1).out 0).trans rfl, (blk_cell (Aside0.mk HI0.out.1).out 1).trans rfl, (blk_cell (Aside0.mk HI0.out.1).out 2).trans rfl⟩ (fun hHeld => ?_)
   clear hK K
   refine norm_ (a' := ?_) ?_ ?_
   rotate_left
   ·show Act.put _ (some 25) _ = _
    simp only [Act.put, Z1, Z2, Z3, i64_w, i32_w]
    rfl
   refine P3 HT_.out 10 15 ?_ (Bz 17 0x7ff) ?_ ?_ ?_ ?_
   rotate_left
   ·intro w'
    go_simp
    with_reducible rfl
   rotate_left
   ·simp only [Act.put, Z1, Z2, Z3, i64_w, i32_w]
    rfl
   refine P3 HT_.out 11 26 ?_ (Bz 17 0xfff) ?_ ?_ ?_ ?_
   rotate_left
   ·intro w'
    go_simp
    with_reducible rfl
   rotate_left
   ·simp only [Act.put, Z1, Z2, Z3, i64_w, i32_w]
    rfl
   refine P3 HT_.out 12 27 ?_ (Bz 17 0x1fff) ?_ ?_ ?_ ?_
   rotate_left
   ·intro w'
    go_simp
    with_reducible rfl
   rotate_left
   ·simp only [Act.put, Z1, Z2, Z3, i64_w, i32_w]
    rfl
   refine P3 HT_.out 13 28 ?_ (Bz 17 0x3fff) ?_ ?_ ?_ ?_
   rotate_left
   ·intro w'
    go_simp
    with_reducible rfl
   rotate_left
   ·simp only [Act.put, Z1, Z2, Z3, i64_w, i32_w]
    rfl
   refine P3 HT_.out 14 6 ?_ (Bz 17 0x7fff) ?_ ?_ ?_ ?_
   rotate_left
   ·intro w'
    go_simp
    with_reducible rfl
   rotate_left
   ·simp only [Act.put, Z1, Z2, Z3, i64_w, i32_w]
    rfl
   refine P3 HT_.out 15 7 ?_ (Bz 17 0xffff) ?_ ?_ ?_ ?_
   rotate_left
   ·intro w'
    go_simp
    with_reducible rfl
   rotate_left
   ·simp only [Act.put, Z1, Z2, Z3, i64_w, i32_w]
    rfl
   refine P3 HT_.out 16 8 ?_ (Bz 17 0x1ffff) ?_ ?_ ?_ ?_
   rotate_left
   ·intro w'
    go_simp
    with_reducible rfl
   rotate_left
   ·simp only [Act.put, Z1, Z2, Z3, i64_w, i32_w]
    rfl
   refine done_ (done_of HT_.out (by kernel_rfl)) ?_
   obtain ⟨HGz8, hgz8⟩ := HI0.out
   have hcz8_0 := cellS102_0 HGz8
   have hcz8_1 := cellS102_1 HGz8
   have hcz8_2 := cellS102_2 HGz8
   have hfz8_0 := blk_frozen HGz8 0
   have hfz8_1 := blk_frozen HGz8 1
   have hfz8_2 := blk_frozen HGz8 2
   clear HGz8 hgz8
   try go_wp2_with (first | (go_at_call 62; go_in) | ((try simp only [Exit.inBlock, Exit.then]); refine bodyPost_end (results_none rfl _ _ _) rfl ?_; simp only []; go_at_K))
   go_ret
   exact ⟨by first | rfl | (simp [errW_none, errW_some] <;> rfl) | (simp [*, errW_none, errW_some] <;> rfl), by repeat (first | (with_reducible first | exact HI0.out | apply IsS102.alloc | apply IsS102.drewN | apply IsS102.drew | apply IsS102.set_0 | apply IsS102.set_1 | apply IsS102.set_2) | exact HI0.out), by repeat (first | (with_reducible first | exact HB.out | apply below_alloc | apply pw_below_drewN | apply below_drew1 | refine below_set ?_ (IsS102.ge HI0.out)) | exact HB.out), by repeat (first | (with_reducible first | exact HK.out | apply KeepBut.set_ | apply keep_drewN | apply keep_drew | apply keep_alloc) | exact HK.out)⟩
  ·replace c4 := Bool.eq_false_iff.mpr c4
   subst c4
   have H1 : (some (0, s0_0, s0_1, 2)) = some (r1, r2, r3, r4) := by rw [if_neg (show ¬ (false = true) by decide)] at H; exact H
   clear H
   have H := H1
   clear H1
   simp only [Option.some.injEq, Prod.mk.injEq] at H
   obtain ⟨rfl, rfl, rfl, rfl⟩ := H
   obtain ⟨HGz9, hgz9⟩ := HI0.out
   have hcz9_0 := cellS102_0 HGz9
   have hcz9_1 := cellS102_1 HGz9
   have hcz9_2 := cellS102_2 HGz9
   have hfz9_0 := blk_frozen HGz9 0
   have hfz9_1 := blk_frozen HGz9 1
   have hfz9_2 := blk_frozen HGz9 2
   clear HGz9 hgz9
   go_enter Tryd.func39, Tryd.ntmps39
   try go_wp2_with (first | (go_at_call 62; go_in) | ((try simp only [Exit.inBlock, Exit.then]); refine bodyPost_end (results_none rfl _ _ _) rfl ?_; simp only []; go_at_K))
   have n0_ := Aside0.mk (IsS102.drew HI0.out)
   have n1_ := Aside0.mk (keep_drew HK.out)
   have n2_ := Aside0.mk (below_drew1 HB.out)
   clear HI0
   clear HK
   clear HB
   have HI0 := n0_
   have HK := n1_
   have HB := n2_
   clear n0_ n1_ n2_
   refine start_ (n := 17) (S := fun w' => w'.cell? ⟨g, 0, none⟩ = some (.string s0_0) ∧ w'.cell? ⟨g, 1, none⟩ = some (.int .i64 s0_1) ∧ w'.cell? ⟨g, 2, none⟩ = some (.int .i64 s0_2)) (ds := []) #[Yn, Yn, Yn, Yn, Yn, Yn, Yn, Yn, Yn, Yn, Yn, Yn, Yn, Yn, Yn, Yn, Yn] (by kernel_rfl) rfl rfl ⟨(blk_cell (Aside0.mk HI0.out.1).out 0).trans rfl, (blk_cell (Aside0.mk HI0.out.1).out 1).trans rfl, (blk_cell (Aside0.mk HI0.out.1).out 2).trans rfl⟩ (fun hHeld => ?_); refine with_tabW codec_Reader_Signed.tab62004 codec_Reader_Signed.bits62004 (fun HT_ HW_ => ?_)
   generalize w.drew = w10 at HI0 HK HB hHeld ⊢
   refine P3 HT_.out 0 16 ?_ (Bz 17 0x1) ?_ ?_ ?_ ?_
   rotate_left
   ·intro w'
    go_simp
    with_reducible rfl
   rotate_left
   ·simp only [Act.put, Z1, Z2, Z3, i64_w, i32_w]
    rfl
   refine P3 HT_.out 1 17 ?_ (Bz 17 0x3) ?_ ?_ ?_ ?_
   rotate_left
   ·intro w'
    go_simp
    with_reducible rfl
   rotate_left
   ·simp only [Act.put, Z1, Z2, Z3, i64_w, i32_w]
    rfl
   refine P3 HT_.out 2 18 ?_ (Bz 17 0x7) ?_ ?_ ?_ ?_
   rotate_left
   ·intro w'
    go_simp
    with_reducible rfl
   rotate_left
   ·simp only [Act.put, Z1, Z2, Z3, i64_w, i32_w]
    rfl
   refine P3 HT_.out 3 19 ?_ (Bz 17 0xf) ?_ ?_ ?_ ?_
   rotate_left
   ·intro w'
    go_simp
    with_reducible rfl
   rotate_left
   ·simp only [Act.put, Z1, Z2, Z3, i64_w, i32_w]
    rfl
   refine P3 HT_.out 5 21 ?_ (Bz 17 0x2f) ?_ ?_ ?_ ?_
   rotate_left
   ·intro w'
    go_simp
    with_reducible rfl
   rotate_left
   ·simp only [Act.put, Z1, Z2, Z3, i64_w, i32_w]
    rfl
   refine P3 HT_.out 6 22 ?_ (Bz 17 0x6f) ?_ ?_ ?_ ?_
   rotate_left
   ·intro w'
    go_simp
    with_reducible rfl
   rotate_left
   ·simp only [Act.put, Z1, Z2, Z3, i64_w, i32_w]
    rfl
   refine P3 HT_.out 7 23 ?_ (Bz 17 0xef) ?_ ?_ ?_ ?_
   rotate_left
   ·intro w'
    go_simp
    with_reducible rfl
   rotate_left
   ·simp only [Act.put, Z1, Z2, Z3, i64_w, i32_w]
    rfl
   refine P6 HT_.out HW_.out 4 20 ?_ (Bz 17 0xff) ?_ hHeld ?_ ?_ ?_
   rotate_left
   ·rintro w' ⟨s0, s1, s2⟩
    go_simp
    with_reducible rfl
   rotate_left
   ·simp only [Act.put, Z1, Z2, Z3, i64_w, i32_w]
    rfl
   refine P6 HT_.out HW_.out 8 24 ?_ (Bz 17 0x1ff) ?_ hHeld ?_ ?_ ?_
   rotate_left
   ·rintro w' ⟨s0, s1, s2⟩
    go_simp
    with_reducible rfl
   rotate_left
   ·simp only [Act.put, Z1, Z2, Z3, i64_w, i32_w]
    rfl
   refine one_ (i := 9) (N := some 25) #[Y, Y, Y, Y, Y, Y, Y, Y, Y, Y, Yn, Yn, Yn, Yn, Yn, Yn, Yn] rfl rfl (one_of HT_.out (by kernel_rfl)) (by decide) (fun K hK => ?_)
   refine goesT_ Tryd.func63 (by kernel_rfl) rfl #[.string s0_0, .int .i64 s0_1] (by rfl) rfl rfl rfl (by (try simp only [List.map_toArray, List.map_cons, List.map_nil]); first | done | rfl | (simp only [List.length_drop, List.length_take]; rfl)) ?_
   with_reducible refine (codec_Reader_Signed_1.calls k s0_0 s0_1 t142 t143 false _ ?side99  A3.out).mono ?_
   (case side99 => first | exact HG.out | exact Glob.below HG.out (by repeat (first | (with_reducible first | exact HB.out | apply below_alloc | apply pw_below_drewN | apply below_drew1 | refine below_set ?_ (IsS102.ge HI0.out)) | exact HB.out)))
   rintro e w11 ⟨rfl, hb⟩
   refine ⟨_, rfl, ?_⟩
   have n0_ := Aside0.mk (IsS102.below (by repeat (first | (with_reducible first | exact HI0.out | apply IsS102.alloc | apply IsS102.drewN | apply IsS102.drew | apply IsS102.set_0 | apply IsS102.set_1 | apply IsS102.set_2) | exact HI0.out)) hb)
   have n1_ := Aside0.mk (KeepBut.trans (by repeat (first | (with_reducible first | exact HK.out | apply KeepBut.set_ | apply keep_drewN | apply keep_drew | apply keep_alloc) | exact HK.out)) (KeepBut.of_below hb g none) (.inl rfl))
   have n2_ := Aside0.mk (below_step (by repeat (first | (with_reducible first | exact HB.out | apply below_alloc | apply pw_below_drewN | apply below_drew1 | refine below_set ?_ (IsS102.ge HI0.out)) | exact HB.out)) hb)
   clear HI0
   clear HK
   clear HB
   have HI0 := n0_
   have HK := n1_
   have HB := n2_
   clear n0_ n1_ n2_
   (try clear hb)
   (try clear hb2)
   (try clear hk)
   (try clear hi)
   refine hK.out _ _ ⟨(blk_cell (Aside0.mk HI0.out.1).out 0).trans rfl, (blk_cell (Aside0.mk HI0.out.1).out 1).trans rfl, (blk_cell (Aside0.mk HI0.out.1).out 2).trans rfl⟩ (fun hHeld => ?_)
   clear hK K
   refine norm_ (a' := ?_) ?_ ?_
   rotate_left
   ·show Act.put _ (some 25) _ = _
    simp only [Act.put, Z1, Z2, Z3, i64_w, i32_w]
    rfl
   refine P3 HT_.out 10 15 ?_ (Bz 17 0x7ff) ?_ ?_ ?_ ?_
   rotate_left
   ·intro w'
    go_simp
    with_reducible rfl
   rotate_left
   ·simp only [Act.put, Z1, Z2, Z3, i64_w, i32_w]
    rfl
   refine P3 HT_.out 11 26 ?_ (Bz 17 0xfff) ?_ ?_ ?_ ?_
   rotate_left
   ·intro w'
    go_simp
    with_reducible rfl
   rotate_left
   ·simp only [Act.put, Z1, Z2, Z3, i64_w, i32_w]
    rfl
   refine P3 HT_.out 12 27 ?_ (Bz 17 0x1fff) ?_ ?_ ?_ ?_
   rotate_left
   ·intro w'
    go_simp
    with_reducible rfl
   rotate_left
   ·simp only [Act.put, Z1, Z2, Z3, i64_w, i32_w]
    rfl
   refine P3 HT_.out 13 28 ?_ (Bz 17 0x3fff) ?_ ?_ ?_ ?_
   rotate_left
   ·intro w'
    go_simp
    with_reducible rfl
   rotate_left
   ·simp only [Act.put, Z1, Z2, Z3, i64_w, i32_w]
    rfl
   refine P3 HT_.out 14 6 ?_ (Bz 17 0x7fff) ?_ ?_ ?_ ?_
   rotate_left
   ·intro w'
    go_simp
    with_reducible rfl
   rotate_left
   ·simp only [Act.put, Z1, Z2, Z3, i64_w, i32_w]
    rfl
   refine P3 HT_.out 15 7 ?_ (Bz 17 0xffff) ?_ ?_ ?_ ?_
   rotate_left
   ·intro w'
    go_simp
    with_reducible rfl
   rotate_left
   ·simp only [Act.put, Z1, Z2, Z3, i64_w, i32_w]
    rfl
   refine P3 HT_.out 16 8 ?_ (Bz 17 0x1ffff) ?_ ?_ ?_ ?_
   rotate_left
   ·intro w'
    go_simp
    with_reducible rfl
   rotate_left
   ·simp only [Act.put, Z1, Z2, Z3, i64_w, i32_w]
    rfl
   refine done_ (done_of HT_.out (by kernel_rfl)) ?_
   obtain ⟨HGz12, hgz12⟩ := HI0.out
   have hcz12_0 := cellS102_0 HGz12
   have hcz12_1 := cellS102_1 HGz12
   have hcz12_2 := cellS102_2 HGz12
   have hfz12_0 := blk_frozen HGz12 0
   have hfz12_1 := blk_frozen HGz12 1
   have hfz12_2 := blk_frozen HGz12 2
   clear HGz12 hgz12
   try go_wp2_with (first | (go_at_call 62; go_in) | ((try simp only [Exit.inBlock, Exit.then]); refine bodyPost_end (results_none rfl _ _ _) rfl ?_; simp only []; go_at_K))
   go_ret
   exact ⟨by first | rfl | (simp [errW_none, errW_some] <;> rfl) | (simp [*, errW_none, errW_some] <;> rfl), by repeat (first | (with_reducible first | exact HI0.out | apply IsS102.alloc | apply IsS102.drewN | apply IsS102.drew | apply IsS102.set_0 | apply IsS102.set_1 | apply IsS102.set_2) | exact HI0.out), by repeat (first | (with_reducible first | exact HB.out | apply below_alloc | apply pw_below_drewN | apply below_drew1 | refine below_set ?_ (IsS102.ge HI0.out)) | exact HB.out), by repeat (first | (with_reducible first | exact HK.out | apply KeepBut.set_ | apply keep_drewN | apply keep_drew | apply keep_alloc) | exact HK.out)⟩
 ·rw [if_neg c2] at H
  have c2b0 : (s0_2 == 0) = false := beq_eq_false_iff_ne.mpr c2
  have c2b1 : (s0_2 != 0) = true := bne_iff_ne.mpr c2
  simp only [Option.some.injEq, Prod.mk.injEq] at H
  obtain ⟨rfl, rfl, rfl, rfl⟩ := H
  obtain ⟨HGz13, hgz13⟩ := HI0.out
  have hcz13_0 := cellS102_0 HGz13
  have hcz13_1 := cellS102_1 HGz13
  have hcz13_2 := cellS102_2 HGz13
  have hfz13_0 := blk_frozen HGz13 0
  have hfz13_1 := blk_frozen HGz13 1
  have hfz13_2 := blk_frozen HGz13 2
  clear HGz13 hgz13
  go_enter Tryd.func39, Tryd.ntmps39
  go_wp2_with (first | (go_at_call 62; go_in) | ((try simp only [Exit.inBlock, Exit.then]); refine bodyPost_end (results_none rfl _ _ _) rfl ?_; simp only []; go_at_K))
  go_ret
  exact ⟨by first | rfl | (simp [errW_none, errW_some] <;> rfl) | (simp [*, errW_none, errW_some] <;> rfl), by repeat (first | (with_reducible first | exact HI0.out | apply IsS102.alloc | apply IsS102.drewN | apply IsS102.drew | apply IsS102.set_0 | apply IsS102.set_1 | apply IsS102.set_2) | exact HI0.out), by repeat (first | (with_reducible first | exact HB.out | apply below_alloc | apply pw_below_drewN | apply below_drew1 | refine below_set ?_ (IsS102.ge HI0.out)) | exact HB.out), by repeat (first | (with_reducible first | exact HK.out | apply KeepBut.set_ | apply keep_drewN | apply keep_drew | apply keep_alloc) | exact HK.out)⟩
end Go.Proofs.YtbccjcdmpiolpaaDoor.T
end
section
namespace Go.Proofs.YtbccjcdmpiolpaaDoor.Pure
open Go.RowKit Go.Proofs.YtbccjcdmpiolpaaDoor.T Go.Proofs.YtbccjcdmpiolpaaDoorW.PrintWords Go.Proofs.YtbccjcdmpiolpaaDoorW.PrintLast Go.Proofs.YtbccjcdmpiolpaaDoorW.PrintMore
set_option linter.unusedVariables false
theorem rd_err (k : Nat) (s : ByteArray) (p : Int) : codec_Reader_Unsigned.f k s p 2 = some (0, s, p, 2) ∧ codec_Reader_Signed.f k s p 2 = some (0, s, p, 2) ∧ codec_Reader_Text.f k s p 2 = some ((⟨#[]⟩ : ByteArray), s, p, 2) ∧ codec_Reader_List.f k s p 2 = some (0, s, p, 2) :=
 ⟨rfl, rfl, rfl, rfl⟩
def rdU (s : ByteArray) (p : Int) : Int × ByteArray × Int × Int := match uS s p with | some (v, e) => (v, s, e, 0) | none => (0, s, p, 2)
def rdS (s : ByteArray) (p : Int) : Int × ByteArray × Int × Int := match sS s p with | some (v, e) => (v, s, e, 0) | none => (0, s, p, 2)
def rdT (s : ByteArray) (p : Int) : ByteArray × ByteArray × Int × Int := match tS s p with | some (v, e) => (v, s, e, 0) | none => ((⟨#[]⟩ : ByteArray), s, p, 2)
def rdL (s : ByteArray) (p : Int) : Int × ByteArray × Int × Int := match lS s p with | some (v, e) => (v, s, e, 0) | none => (0, s, p, 2)
theorem rd_unsigned (k : Nat) (s : ByteArray) (p : Int) (hz : s.size ≤ 140737488355327) : codec_Reader_Unsigned.f (k + 12) s p 0 = some (rdU s p) := by
 unfold codec_Reader_Unsigned.f codec_Reader_Unsigned_1.f rdU
 rw [if_pos rfl, raw_eq k s p 3 (Or.inl rfl) hz, Option.bind_some, Option.bind_some]
 cases e : uS s p with
 | some x =>
  obtain ⟨v, q⟩ := x
  rw [(rawS3 s p).1 v q e, if_pos rfl]
 | none => rw [if_neg (by rw [(rawS3 s p).2 e]; exact Bool.false_ne_true)]
theorem rd_signed (k : Nat) (s : ByteArray) (p : Int) (hz : s.size ≤ 140737488355327) : codec_Reader_Signed.f (k + 12) s p 0 = some (rdS s p) := by
 unfold codec_Reader_Signed.f codec_Reader_Signed_1.f rdS
 rw [if_pos rfl, raw_eq k s p 4 (Or.inr rfl) hz, Option.bind_some, Option.bind_some]
 cases e : sS s p with
 | some x =>
  obtain ⟨v, q⟩ := x
  have hr := sS_some e
  rw [(rawS4 s p).1 v q e, if_pos rfl]
  have : wrap64 (IntKind.u64.wrap v) = v := by rw [u64w]; unfold wrap64; omega
  rw [this]
 | none => rw [if_neg (by rw [(rawS4 s p).2 e]; exact Bool.false_ne_true)]
theorem rd_text (k : Nat) (s : ByteArray) (p : Int) (hz : s.size ≤ 140737488355327) : codec_Reader_Text.f (k + 12) s p 0 = some (rdT s p) := by
 unfold codec_Reader_Text.f rdT
 rw [if_pos rfl, text_eq k s p hz, Option.bind_some]
 cases e : tS s p with
 | some x => obtain ⟨v, q⟩ := x; rw [optT_some, if_pos rfl]
 | none => rw [optT_none, if_neg Bool.false_ne_true]
theorem rd_list (k : Nat) (s : ByteArray) (p : Int) (hz : s.size ≤ 140737488355327) : codec_Reader_List.f (k + 12) s p 0 = some (rdL s p) := by
 unfold codec_Reader_List.f rdL
 rw [if_pos rfl, list_eq k s p hz, Option.bind_some]
 cases e : lS s p with
 | some x => obtain ⟨v, q⟩ := x; rw [opt3_some, if_pos rfl]
 | none => rw [opt3_none, if_neg Bool.false_ne_true]
end Go.Proofs.YtbccjcdmpiolpaaDoor.Pure
end
section
namespace Go.Proofs.YtbccjcdmpiolpaaDoor.T
open Go.RowKit Go.Proofs.YtbccjcdmpiolpaaDoorW.PrintWords Go.Proofs.YtbccjcdmpiolpaaDoorW.PrintLast Go.Proofs.YtbccjcdmpiolpaaDoorW.PrintMore
attribute [local go_sem] max2_int min2_int max_two min_two max_three min_three max_four min_four
set_option linter.unusedVariables false
set_option linter.unusedSimpArgs false
def codec_Reader_Err.f (s0_0 : ByteArray) (s0_1 : Int) (s0_2 : Int) : Option (Int × ByteArray × Int × Int) := some (s0_2, s0_0, s0_1, s0_2)
set_option maxHeartbeats 8000000 in
set_option maxRecDepth 100000 in
theorem codec_Reader_Err.calls (g : Nat) (s0_0 : ByteArray) (s0_1 : Int) (s0_2 : Int) (r1 : Int) (r2 : ByteArray) (r3 : Int) (r4 : Int) (w0 w : World) (hG : Glob w0) (hI : IsS102 w0 w g s0_0 s0_1 s0_2) (hB : Below w0.heap.size w0 w) (h : codec_Reader_Err.f s0_0 s0_1 s0_2 = some (r1, r2, r3, r4)) :
  Calls Tryd.prog 38 #[.pointer (some ⟨g, 0, none⟩)] w fun e w' => e = .returned (.int .i64 r1) ∧ IsS102 w0 w' g r2 r3 r4 ∧ Below w0.heap.size w0 w' ∧ KeepBut w w' g none := by
 have HG := Aside0.mk hG
 clear hG
 have HI0 := Aside0.mk hI
 have HK := Aside0.mk (KeepBut.refl w g none)
 have HL := Aside0.mk hB.size
 clear hI
 have HW0 := Aside0.mk hB.size
 have HB := Aside0.mk hB
 clear hB
 have H : (some (s0_2, s0_0, s0_1, s0_2)) = some (r1, r2, r3, r4) := h
 clear h
 simp only [Option.some.injEq, Prod.mk.injEq] at H
 obtain ⟨rfl, rfl, rfl, rfl⟩ := H
 obtain ⟨HGz2, hgz2⟩ := HI0.out
 have hcz2_0 := cellS102_0 HGz2
 have hcz2_1 := cellS102_1 HGz2
 have hcz2_2 := cellS102_2 HGz2
 have hfz2_0 := blk_frozen HGz2 0
 have hfz2_1 := blk_frozen HGz2 1
 have hfz2_2 := blk_frozen HGz2 2
 clear HGz2 hgz2
 go_enter Tryd.func38, Tryd.ntmps38
 go_wp2
 go_ret
 exact ⟨by first | rfl | (simp [errW_none, errW_some] <;> rfl) | (simp [*, errW_none, errW_some] <;> rfl), by repeat (first | (with_reducible first | exact HI0.out | apply IsS102.alloc | apply IsS102.drewN | apply IsS102.drew | apply IsS102.set_0 | apply IsS102.set_1 | apply IsS102.set_2) | exact HI0.out), by repeat (first | (with_reducible first | exact HB.out | apply below_alloc | apply pw_below_drewN | apply below_drew1 | refine below_set ?_ (IsS102.ge HI0.out)) | exact HB.out), by repeat (first | (with_reducible first | exact HK.out | apply KeepBut.set_ | apply keep_drewN | apply keep_drew | apply keep_alloc) | exact HK.out)⟩
end Go.Proofs.YtbccjcdmpiolpaaDoor.T
end
section
namespace Go.Proofs.YtbccjcdmpiolpaaDoor.T
open Go.RowKit Go.Proofs.YtbccjcdmpiolpaaDoor.Pure Go.Proofs.YtbccjcdmpiolpaaDoorW.PrintWords Go.Proofs.YtbccjcdmpiolpaaDoorW.PrintLast Go.Proofs.YtbccjcdmpiolpaaDoorW.PrintMore
set_option linter.unusedVariables false
set_option linter.unusedSimpArgs false
attribute [local go_sem] max2_int min2_int max_two min_two
structure TRX (w0 w : World) (gR gr : Nat) (s : ByteArray) (ok : Bool) (p e : Int) : Prop where
 box : w.heap[gR]? = some (.cells #[.pointer (some ⟨gr, 0, none⟩), .bool ok] 78 (0, 0))
 rd : IsS102 w0 w gr s p e
 err : e = 0 ∨ e = 2
 low : w0.heap.size ≤ gR
structure St (o : Option Int) (ok : Bool) (p e : Int) : Prop where
 good : ∀ q, o = some q → ok = true ∧ p = q ∧ e = 0
 bad : o = none → ¬ (ok = true ∧ e = 0)
def TRS (w0 w : World) (gR gr : Nat) (s : ByteArray) (o : Option Int) : Prop := ∃ ok p e, TRX w0 w gR gr s ok p e ∧ St o ok p e
structure KeepQ (w w' : World) : Prop where
 size : w.heap.size ≤ w'.heap.size
 keep : ∀ (k : Nat) cs t, w.heap[k]? = some (.cells cs t (0, 0)) → t ≠ 78 → t ≠ 102 → w'.heap[k]? = some (.cells cs t (0, 0))
theorem KeepQ.trans {w w1 w2 : World} (h : KeepQ w w1) (k : KeepQ w1 w2) : KeepQ w w2 := ⟨Nat.le_trans h.size k.size, fun j cs t hj h1 h2 => k.keep j cs t (h.keep j cs t hj h1 h2) h1 h2⟩
theorem KeepQ.of_below {w w1 : World} (h : Below w.heap.size w w1) : KeepQ w w1 := ⟨h.size, fun j cs t hj _ _ => blk_below hj h⟩
theorem KeepQ.of_but {w w1 : World} {g : Nat} {cs0 : Array Value} (h : KeepBut w w1 g none) (hg : w.heap[g]? = some (.cells cs0 102 (0, 0))) : KeepQ w w1 := ⟨h.1, fun k cs t hk h1 h2 => (h.2 k (blk_lt hk) (fun e => by subst e; rw [hg] at hk; injection hk with hk; injection hk with _ hk _; exact h2 hk.symm) (by simp)).trans hk⟩
theorem KeepQ.set {w w1 : World} (h : KeepQ w w1) {g : Nat} {cs0 : Array Value} (hg : w1.heap[g]? = some (.cells cs0 78 (0, 0))) (j : Nat) (u : Value) : KeepQ w (w1.setCell ⟨g, j, none⟩ u) := ⟨by simpa [World.setCell] using h.size, fun k cs t hk h1 h2 => blk_far (h.keep k cs t hk h1 h2) (p := ⟨g, j, none⟩) (fun e => by
 have h3 := h.keep k cs t hk h1 h2
 rw [e] at h3
 rw [h3] at hg
 injection hg with hg
 injection hg with _ hg _
 exact h1 hg) u⟩
theorem TRX.below {w0 w w1 : World} {gR gr : Nat} {s : ByteArray} {ok : Bool} {p e : Int} (h : TRX w0 w gR gr s ok p e) (hb : Below w.heap.size w w1) : TRX w0 w1 gR gr s ok p e := ⟨blk_below h.box hb, ⟨blk_below h.rd.1 hb, h.rd.2⟩, h.err, h.low⟩
theorem TRS.below {w0 w w1 : World} {gR gr : Nat} {s : ByteArray} {o : Option Int} (h : TRS w0 w gR gr s o) (hb : Below w.heap.size w w1) : TRS w0 w1 gR gr s o := by
 obtain ⟨ok, p, e, h1, h2⟩ := h
 exact ⟨ok, p, e, h1.below hb, h2⟩
theorem TRX.ne {w0 w : World} {gR gr : Nat} {s : ByteArray} {ok : Bool} {p e : Int} (h : TRX w0 w gR gr s ok p e) : gR ≠ gr := blk_ne h.box h.rd.1 (by decide)
theorem TRX.but {w0 w w1 : World} {gR gr : Nat} {s : ByteArray} {ok : Bool} {p e p' e' : Int} (h : TRX w0 w gR gr s ok p e) (hk : KeepBut w w1 gr none) (hi : IsS102 w0 w1 gr s p' e') (he : e' = 0 ∨ e' = 2) : TRX w0 w1 gR gr s ok p' e' := ⟨(hk.2 gR (blk_lt h.box) h.ne (by simp)).trans h.box, hi, he, h.low⟩
theorem TRX.flag {w0 w : World} {gR gr : Nat} {s : ByteArray} {ok : Bool} {p e : Int} (h : TRX w0 w gR gr s ok p e) (b : Bool) : TRX w0 (w.setCell ⟨gR, 1, none⟩ (.bool b)) gR gr s b p e := ⟨blk_put h.box 1 (.bool b) rfl, ⟨blk_far h.rd.1 (p := ⟨gR, 1, none⟩) (Ne.symm h.ne) (.bool b), h.rd.2⟩, h.err, h.low⟩
def uR (s : ByteArray) (p e : Int) : Int × ByteArray × Int × Int := if e = 0 then rdU s p else (0, s, p, e)
def sR (s : ByteArray) (p e : Int) : Int × ByteArray × Int × Int := if e = 0 then rdS s p else (0, s, p, e)
def tR (s : ByteArray) (p e : Int) : ByteArray × ByteArray × Int × Int := if e = 0 then rdT s p else ((⟨#[]⟩ : ByteArray), s, p, e)
def lR (s : ByteArray) (p e : Int) : Int × ByteArray × Int × Int := if e = 0 then rdL s p else (0, s, p, e)
theorem uR_eq (s : ByteArray) (p e : Int) (he : e = 0 ∨ e = 2) (hz : s.size ≤ 140737488355327) : codec_Reader_Unsigned.f 40 s p e = some (uR s p e) := by
 rcases he with rfl | rfl
 ·exact rd_unsigned 28 s p hz
 ·exact (rd_err 40 s p).1
theorem sR_eq (s : ByteArray) (p e : Int) (he : e = 0 ∨ e = 2) (hz : s.size ≤ 140737488355327) : codec_Reader_Signed.f 40 s p e = some (sR s p e) := by
 rcases he with rfl | rfl
 ·exact rd_signed 28 s p hz
 ·exact (rd_err 40 s p).2.1
theorem tR_eq (s : ByteArray) (p e : Int) (he : e = 0 ∨ e = 2) (hz : s.size ≤ 140737488355327) : codec_Reader_Text.f 40 s p e = some (tR s p e) := by
 rcases he with rfl | rfl
 ·exact rd_text 28 s p hz
 ·exact (rd_err 40 s p).2.2.1
theorem lR_eq (s : ByteArray) (p e : Int) (he : e = 0 ∨ e = 2) (hz : s.size ≤ 140737488355327) : codec_Reader_List.f 40 s p e = some (lR s p e) := by
 rcases he with rfl | rfl
 ·exact rd_list 28 s p hz
 ·exact (rd_err 40 s p).2.2.2
theorem uR_st (s : ByteArray) (p e : Int) (he : e = 0 ∨ e = 2) : (uR s p e).2.1 = s ∧ ((uR s p e).2.2.2 = 0 ∨ (uR s p e).2.2.2 = 2) := by
 unfold uR
 rcases he with rfl | rfl
 ·rw [if_pos rfl]
  unfold rdU
  split
  ·exact ⟨rfl, Or.inl rfl⟩
  ·exact ⟨rfl, Or.inr rfl⟩
 ·rw [if_neg (by decide)]
  exact ⟨rfl, Or.inr rfl⟩
theorem uR_good {s : ByteArray} {p : Int} {v : Int} {q : Int} (h : uS s p = some (v, q)) : uR s p 0 = (v, s, q, 0) := by
 unfold uR rdU
 rw [if_pos rfl, h]
theorem uR_bad {s : ByteArray} {p e : Int} (he : e = 0 ∨ e = 2) (h : e = 0 → uS s p = none) : (uR s p e).2.2.2 = 2 := by
 unfold uR
 rcases he with rfl | rfl
 ·rw [if_pos rfl]
  unfold rdU
  rw [h rfl]
 ·rw [if_neg (by decide)]
theorem St.u {s : ByteArray} {o : Option Int} {ok : Bool} {p e : Int} (h : St o ok p e) (he : e = 0 ∨ e = 2) : St ((o.bind fun p => uS s p).map Prod.snd) ok (uR s p e).2.2.1 (uR s p e).2.2.2 ∧ ∀ v q, (o.bind fun p => uS s p) = some (v, q) → (uR s p e).1 = v := by
 cases o with
 | none =>
  refine ⟨⟨fun q hq => (by cases hq), fun _ hh => ?_⟩, fun v q hq => by cases hq⟩
  have h2 := h.2 rfl
  rcases he with rfl | rfl
  ·exact h2 ⟨hh.1, rfl⟩
  ·have h3 := uR_bad (s := s) (p := p) (Or.inr rfl : (2 : Int) = 0 ∨ (2 : Int) = 2) (fun h => by cases h)
   have h4 := hh.2
   rw [h3] at h4
   cases h4
 | some q0 =>
  obtain ⟨rfl, rfl, rfl⟩ := h.1 q0 rfl
  rw [Option.bind_some]
  cases hs : uS s p with
  | none =>
   refine ⟨⟨fun q hq => (by cases hq), fun _ hh => ?_⟩, fun v q hq => by cases hq⟩
   have h3 := uR_bad (s := s) (p := p) (Or.inl rfl : (0 : Int) = 0 ∨ (0 : Int) = 2) (fun _ => hs)
   have h4 := hh.2
   rw [h3] at h4
   cases h4
  | some a =>
   obtain ⟨v, q⟩ := a
   rw [uR_good hs]
   refine ⟨⟨fun q' hq => ?_, fun hn => by cases hn⟩, fun v' q' hq => ?_⟩
   ·injection hq with hq
    exact ⟨rfl, hq, rfl⟩
   ·injection hq with hq
    injection hq
theorem sR_st (s : ByteArray) (p e : Int) (he : e = 0 ∨ e = 2) : (sR s p e).2.1 = s ∧ ((sR s p e).2.2.2 = 0 ∨ (sR s p e).2.2.2 = 2) := by
 unfold sR
 rcases he with rfl | rfl
 ·rw [if_pos rfl]
  unfold rdS
  split
  ·exact ⟨rfl, Or.inl rfl⟩
  ·exact ⟨rfl, Or.inr rfl⟩
 ·rw [if_neg (by decide)]
  exact ⟨rfl, Or.inr rfl⟩
theorem sR_good {s : ByteArray} {p : Int} {v : Int} {q : Int} (h : sS s p = some (v, q)) : sR s p 0 = (v, s, q, 0) := by
 unfold sR rdS
 rw [if_pos rfl, h]
theorem sR_bad {s : ByteArray} {p e : Int} (he : e = 0 ∨ e = 2) (h : e = 0 → sS s p = none) : (sR s p e).2.2.2 = 2 := by
 unfold sR
 rcases he with rfl | rfl
 ·rw [if_pos rfl]
  unfold rdS
  rw [h rfl]
 ·rw [if_neg (by decide)]
theorem St.s {s : ByteArray} {o : Option Int} {ok : Bool} {p e : Int} (h : St o ok p e) (he : e = 0 ∨ e = 2) : St ((o.bind fun p => sS s p).map Prod.snd) ok (sR s p e).2.2.1 (sR s p e).2.2.2 ∧ ∀ v q, (o.bind fun p => sS s p) = some (v, q) → (sR s p e).1 = v := by
 cases o with
 | none =>
  refine ⟨⟨fun q hq => (by cases hq), fun _ hh => ?_⟩, fun v q hq => by cases hq⟩
  have h2 := h.2 rfl
  rcases he with rfl | rfl
  ·exact h2 ⟨hh.1, rfl⟩
  ·have h3 := sR_bad (s := s) (p := p) (Or.inr rfl : (2 : Int) = 0 ∨ (2 : Int) = 2) (fun h => by cases h)
   have h4 := hh.2
   rw [h3] at h4
   cases h4
 | some q0 =>
  obtain ⟨rfl, rfl, rfl⟩ := h.1 q0 rfl
  rw [Option.bind_some]
  cases hs : sS s p with
  | none =>
   refine ⟨⟨fun q hq => (by cases hq), fun _ hh => ?_⟩, fun v q hq => by cases hq⟩
   have h3 := sR_bad (s := s) (p := p) (Or.inl rfl : (0 : Int) = 0 ∨ (0 : Int) = 2) (fun _ => hs)
   have h4 := hh.2
   rw [h3] at h4
   cases h4
  | some a =>
   obtain ⟨v, q⟩ := a
   rw [sR_good hs]
   refine ⟨⟨fun q' hq => ?_, fun hn => by cases hn⟩, fun v' q' hq => ?_⟩
   ·injection hq with hq
    exact ⟨rfl, hq, rfl⟩
   ·injection hq with hq
    injection hq
theorem tR_st (s : ByteArray) (p e : Int) (he : e = 0 ∨ e = 2) : (tR s p e).2.1 = s ∧ ((tR s p e).2.2.2 = 0 ∨ (tR s p e).2.2.2 = 2) := by
 unfold tR
 rcases he with rfl | rfl
 ·rw [if_pos rfl]
  unfold rdT
  split
  ·exact ⟨rfl, Or.inl rfl⟩
  ·exact ⟨rfl, Or.inr rfl⟩
 ·rw [if_neg (by decide)]
  exact ⟨rfl, Or.inr rfl⟩
theorem tR_good {s : ByteArray} {p : Int} {v : ByteArray} {q : Int} (h : tS s p = some (v, q)) : tR s p 0 = (v, s, q, 0) := by
 unfold tR rdT
 rw [if_pos rfl, h]
theorem tR_bad {s : ByteArray} {p e : Int} (he : e = 0 ∨ e = 2) (h : e = 0 → tS s p = none) : (tR s p e).2.2.2 = 2 := by
 unfold tR
 rcases he with rfl | rfl
 ·rw [if_pos rfl]
  unfold rdT
  rw [h rfl]
 ·rw [if_neg (by decide)]
theorem St.t {s : ByteArray} {o : Option Int} {ok : Bool} {p e : Int} (h : St o ok p e) (he : e = 0 ∨ e = 2) : St ((o.bind fun p => tS s p).map Prod.snd) ok (tR s p e).2.2.1 (tR s p e).2.2.2 ∧ ∀ v q, (o.bind fun p => tS s p) = some (v, q) → (tR s p e).1 = v := by
 cases o with
 | none =>
  refine ⟨⟨fun q hq => (by cases hq), fun _ hh => ?_⟩, fun v q hq => by cases hq⟩
  have h2 := h.2 rfl
  rcases he with rfl | rfl
  ·exact h2 ⟨hh.1, rfl⟩
  ·have h3 := tR_bad (s := s) (p := p) (Or.inr rfl : (2 : Int) = 0 ∨ (2 : Int) = 2) (fun h => by cases h)
   have h4 := hh.2
   rw [h3] at h4
   cases h4
 | some q0 =>
  obtain ⟨rfl, rfl, rfl⟩ := h.1 q0 rfl
  rw [Option.bind_some]
  cases hs : tS s p with
  | none =>
   refine ⟨⟨fun q hq => (by cases hq), fun _ hh => ?_⟩, fun v q hq => by cases hq⟩
   have h3 := tR_bad (s := s) (p := p) (Or.inl rfl : (0 : Int) = 0 ∨ (0 : Int) = 2) (fun _ => hs)
   have h4 := hh.2
   rw [h3] at h4
   cases h4
  | some a =>
   obtain ⟨v, q⟩ := a
   rw [tR_good hs]
   refine ⟨⟨fun q' hq => ?_, fun hn => by cases hn⟩, fun v' q' hq => ?_⟩
   ·injection hq with hq
    exact ⟨rfl, hq, rfl⟩
   ·injection hq with hq
    injection hq
theorem lR_st (s : ByteArray) (p e : Int) (he : e = 0 ∨ e = 2) : (lR s p e).2.1 = s ∧ ((lR s p e).2.2.2 = 0 ∨ (lR s p e).2.2.2 = 2) := by
 unfold lR
 rcases he with rfl | rfl
 ·rw [if_pos rfl]
  unfold rdL
  split
  ·exact ⟨rfl, Or.inl rfl⟩
  ·exact ⟨rfl, Or.inr rfl⟩
 ·rw [if_neg (by decide)]
  exact ⟨rfl, Or.inr rfl⟩
theorem lR_good {s : ByteArray} {p : Int} {v : Int} {q : Int} (h : lS s p = some (v, q)) : lR s p 0 = (v, s, q, 0) := by
 unfold lR rdL
 rw [if_pos rfl, h]
theorem lR_bad {s : ByteArray} {p e : Int} (he : e = 0 ∨ e = 2) (h : e = 0 → lS s p = none) : (lR s p e).2.2.2 = 2 := by
 unfold lR
 rcases he with rfl | rfl
 ·rw [if_pos rfl]
  unfold rdL
  rw [h rfl]
 ·rw [if_neg (by decide)]
theorem St.l {s : ByteArray} {o : Option Int} {ok : Bool} {p e : Int} (h : St o ok p e) (he : e = 0 ∨ e = 2) : St ((o.bind fun p => lS s p).map Prod.snd) ok (lR s p e).2.2.1 (lR s p e).2.2.2 ∧ ∀ v q, (o.bind fun p => lS s p) = some (v, q) → (lR s p e).1 = v := by
 cases o with
 | none =>
  refine ⟨⟨fun q hq => (by cases hq), fun _ hh => ?_⟩, fun v q hq => by cases hq⟩
  have h2 := h.2 rfl
  rcases he with rfl | rfl
  ·exact h2 ⟨hh.1, rfl⟩
  ·have h3 := lR_bad (s := s) (p := p) (Or.inr rfl : (2 : Int) = 0 ∨ (2 : Int) = 2) (fun h => by cases h)
   have h4 := hh.2
   rw [h3] at h4
   cases h4
 | some q0 =>
  obtain ⟨rfl, rfl, rfl⟩ := h.1 q0 rfl
  rw [Option.bind_some]
  cases hs : lS s p with
  | none =>
   refine ⟨⟨fun q hq => (by cases hq), fun _ hh => ?_⟩, fun v q hq => by cases hq⟩
   have h3 := lR_bad (s := s) (p := p) (Or.inl rfl : (0 : Int) = 0 ∨ (0 : Int) = 2) (fun _ => hs)
   have h4 := hh.2
   rw [h3] at h4
   cases h4
  | some a =>
   obtain ⟨v, q⟩ := a
   rw [lR_good hs]
   refine ⟨⟨fun q' hq => ?_, fun hn => by cases hn⟩, fun v' q' hq => ?_⟩
   ·injection hq with hq
    exact ⟨rfl, hq, rfl⟩
   ·injection hq with hq
    injection hq
theorem rs_calls (w0 : World) (gR gr : Nat) (s : ByteArray) (o : Option Int) (w : World) (hG : Glob w0) (hz : s.size ≤ 140737488355327) (h : TRS w0 w gR gr s o) (hB : Below w0.heap.size w0 w) :
  Calls Tryd.prog 39 #[.pointer (some ⟨gr, 0, none⟩)] w fun e w' => ∃ x : Int, e = .returned (.int .i64 x) ∧ TRS w0 w' gR gr s ((o.bind fun p => sS s p).map Prod.snd) ∧ (∀ v q, (o.bind fun p => sS s p) = some (v, q) → x = v) ∧ Below w0.heap.size w0 w' ∧ KeepQ w w' := by
 obtain ⟨ok, p, er, hx, hs⟩ := h
 have h1 := sR_st s p er hx.err
 have h2 := hs.s (s := s) hx.err
 have hf := sR_eq s p er hx.err hz
 obtain ⟨⟨x, s', p', e'⟩, hr⟩ : ∃ r, sR s p er = r := ⟨_, rfl⟩
 rw [hr] at h1 h2 hf
 obtain ⟨h1a, h1b⟩ := h1
 replace h1a : s' = s := h1a
 subst h1a
 refine (codec_Reader_Signed.calls 40 gr s' p er x s' p' e' w0 w hG hx.rd hB hf).mono ?_
 rintro e w' ⟨rfl, hi, hb, hk⟩
 exact ⟨x, rfl, ⟨ok, p', e', hx.but hk hi h1b, h2.1⟩, h2.2, hb, KeepQ.of_but hk hx.rd.1⟩
theorem rt_calls (w0 : World) (gR gr : Nat) (s : ByteArray) (o : Option Int) (w : World) (hG : Glob w0) (hz : s.size ≤ 140737488355327) (h : TRS w0 w gR gr s o) (hB : Below w0.heap.size w0 w) :
  Calls Tryd.prog 33 #[.pointer (some ⟨gr, 0, none⟩)] w fun e w' => ∃ x : ByteArray, e = .returned (.string x) ∧ TRS w0 w' gR gr s ((o.bind fun p => tS s p).map Prod.snd) ∧ (∀ v q, (o.bind fun p => tS s p) = some (v, q) → x = v) ∧ Below w0.heap.size w0 w' ∧ KeepQ w w' := by
 obtain ⟨ok, p, er, hx, hs⟩ := h
 have h1 := tR_st s p er hx.err
 have h2 := hs.t (s := s) hx.err
 have hf := tR_eq s p er hx.err hz
 obtain ⟨⟨x, s', p', e'⟩, hr⟩ : ∃ r, tR s p er = r := ⟨_, rfl⟩
 rw [hr] at h1 h2 hf
 obtain ⟨h1a, h1b⟩ := h1
 replace h1a : s' = s := h1a
 subst h1a
 refine (codec_Reader_Text.calls 40 gr s' p er x s' p' e' w0 w hG hx.rd hB hf).mono ?_
 rintro e w' ⟨rfl, hi, hb, hk⟩
 exact ⟨x, rfl, ⟨ok, p', e', hx.but hk hi h1b, h2.1⟩, h2.2, hb, KeepQ.of_but hk hx.rd.1⟩
theorem rl_calls (w0 : World) (gR gr : Nat) (s : ByteArray) (o : Option Int) (w : World) (hG : Glob w0) (hz : s.size ≤ 140737488355327) (h : TRS w0 w gR gr s o) (hB : Below w0.heap.size w0 w) :
  Calls Tryd.prog 37 #[.pointer (some ⟨gr, 0, none⟩)] w fun e w' => ∃ x : Int, e = .returned (.int .i64 x) ∧ TRS w0 w' gR gr s ((o.bind fun p => lS s p).map Prod.snd) ∧ (∀ v q, (o.bind fun p => lS s p) = some (v, q) → x = v) ∧ Below w0.heap.size w0 w' ∧ KeepQ w w' := by
 obtain ⟨ok, p, er, hx, hs⟩ := h
 have h1 := lR_st s p er hx.err
 have h2 := hs.l (s := s) hx.err
 have hf := lR_eq s p er hx.err hz
 obtain ⟨⟨x, s', p', e'⟩, hr⟩ : ∃ r, lR s p er = r := ⟨_, rfl⟩
 rw [hr] at h1 h2 hf
 obtain ⟨h1a, h1b⟩ := h1
 replace h1a : s' = s := h1a
 subst h1a
 refine (codec_Reader_List.calls 40 gr s' p er x s' p' e' w0 w hG hx.rd hB hf).mono ?_
 rintro e w' ⟨rfl, hi, hb, hk⟩
 exact ⟨x, rfl, ⟨ok, p', e', hx.but hk hi h1b, h2.1⟩, h2.2, hb, KeepQ.of_but hk hx.rd.1⟩
def numO (s : ByteArray) (most : Int) (o : Option Int) : Option (Int × Int) := o.bind fun p => (uS s p).bind fun b => if b.1 ≤ most then some b else none
def lstO (s : ByteArray) (n : Int) (o : Option Int) : Option Int := o.bind fun p => (lS s p).bind fun b => if b.1 = n then some b.2 else none
theorem St.fail {p e : Int} : St none false p e := ⟨fun q hq => (by cases hq), fun _ hh => by cases hh.1⟩
theorem numO_eq (s : ByteArray) (most : Int) (o : Option Int) : numO s most o = (o.bind fun p => uS s p).bind fun b => if b.1 ≤ most then some b else none := by
 unfold numO
 cases o <;> rfl
theorem lstO_eq (s : ByteArray) (n : Int) (o : Option Int) : lstO s n o = (o.bind fun p => lS s p).bind fun b => if b.1 = n then some b.2 else none := by
 unfold lstO
 cases o <;> rfl
theorem uR_range (s : ByteArray) (p e : Int) : 0 ≤ (uR s p e).1 ∧ (uR s p e).1 < 18446744073709551616 := by
 unfold uR
 split
 ·unfold rdU
  split
  ·rename_i v q h
   have := uS_some h
   exact ⟨this.2.2.2.1, this.2.2.2.2⟩
  ·exact ⟨Int.le_refl 0, (by decide : (0 : Int) < 18446744073709551616)⟩
 ·exact ⟨Int.le_refl 0, (by decide : (0 : Int) < 18446744073709551616)⟩
set_option maxHeartbeats 16000000 in
set_option maxRecDepth 100000 in
theorem tlist_calls (w0 : World) (gR gr : Nat) (s : ByteArray) (n : Int) (o : Option Int) (w : World) (hG : Glob w0) (hz : s.size ≤ 140737488355327) (h : TRS w0 w gR gr s o) (hB : Below w0.heap.size w0 w) :
  Calls Tryd.prog 32 #[.pointer (some ⟨gR, 0, none⟩), .int .i64 n] w fun e w' => e = .returned (.tuple #[]) ∧ TRS w0 w' gR gr s (lstO s n o) ∧ Below w0.heap.size w0 w' ∧ KeepQ w w' := by
 have HG := Aside0.mk hG
 have HZ := Aside0.mk hz
 have HT := Aside0.mk h
 have HB := Aside0.mk hB
 obtain ⟨ok0, p0, er0, hx0, _⟩ := h
 have r0 := (blk_cell hx0.box 0).trans rfl
 clear hx0 hB hG hz
 have hend : Aside0 (∀ (x : Int) (w1 : World), TRS w0 w1 gR gr s ((o.bind fun p => lS s p).map Prod.snd) → (∀ v q, (o.bind fun p => lS s p) = some (v, q) → x = v) → x = n → TRS w0 w1 gR gr s (lstO s n o)) := ⟨fun x w1 ht hv he => by
  rw [lstO_eq]
  cases hl : (o.bind fun p => lS s p) with
  | none => rw [hl] at ht; exact ht
  | some b =>
   obtain ⟨v, q⟩ := b
   rw [hl] at ht
   have hvx := hv v q hl
   rw [Option.bind_some, if_pos (by show v = n; rw [← hvx, he])]
   exact ht⟩
 have hbad : Aside0 (∀ (x : Int) (w1 : World), TRS w0 w1 gR gr s ((o.bind fun p => lS s p).map Prod.snd) → (∀ v q, (o.bind fun p => lS s p) = some (v, q) → x = v) → ¬ x = n → TRS w0 (w1.setCell ⟨gR, 1, none⟩ (.bool false)) gR gr s (lstO s n o)) := ⟨fun x w1 ht hv he => by
  obtain ⟨ok, p, er, h1, _⟩ := ht
  have : lstO s n o = none := by
   rw [lstO_eq]
   cases hl : (o.bind fun p => lS s p) with
   | none => rfl
   | some b =>
    obtain ⟨v, q⟩ := b
    have hvx := hv v q hl
    rw [Option.bind_some, if_neg (by show ¬ v = n; rw [← hvx]; exact he)]
  rw [this]
  exact ⟨false, p, er, h1.flag false, St.fail⟩⟩
 go_enter Tryd.func32, Tryd.ntmps32
 go_wp2_with (go_at_call 37; (with_reducible refine (rl_calls w0 gR gr s o _ HG.out HZ.out HT.out HB.out).mono ?_); rintro e w1 ⟨x, rfl, ht, hv, hb, hk⟩; have HT1 := Aside0.mk ht; have HV1 := Aside0.mk hv; have HB1 := Aside0.mk hb; have HK1 := Aside0.mk hk; obtain ⟨ok1, p1, er1, hx1, _⟩ := ht; have HX1 := Aside0.mk hx1; have r1 := (blk_cell hx1.box 1).trans rfl; have f1 := blk_frozen hx1.box 1; clear hx1 hv hb hk r0)
 ·rename_i hne
  have hne' : ¬ x = n := bne_iff_ne.mp hne
  refine bodyPost_end (results_none rfl _ _ _) rfl ?_
  exact ⟨rfl, hbad.out x w1 HT1.out HV1.out hne', HB1.out.setCell (p := ⟨gR, 1, none⟩) HX1.out.low (.bool false), HK1.out.set HX1.out.box 1 (.bool false)⟩
 ·rename_i hne
  have hne' : x = n := by
   by_cases hq : x = n
   ·exact hq
   ·rw [bne_iff_ne.mpr hq] at hne
    cases hne
  refine bodyPost_end (results_none rfl _ _ _) rfl ?_
  exact ⟨rfl, hend.out x w1 HT1.out HV1.out hne', HB1.out, HK1.out⟩
set_option maxHeartbeats 16000000 in
set_option maxRecDepth 100000 in
theorem tnum_calls (w0 : World) (gR gr : Nat) (s : ByteArray) (most : Int) (o : Option Int) (w : World) (hG : Glob w0) (hz : s.size ≤ 140737488355327) (hm : 0 ≤ most ∧ most ≤ 1000000000000) (h : TRS w0 w gR gr s o) (hB : Below w0.heap.size w0 w) :
  Calls Tryd.prog 36 #[.pointer (some ⟨gR, 0, none⟩), .int .u64 most] w fun e w' => ∃ x : Int, e = .returned (.int .i64 x) ∧ TRS w0 w' gR gr s ((numO s most o).map Prod.snd) ∧ (∀ v q, numO s most o = some (v, q) → x = v) ∧ (0 ≤ x ∧ x ≤ most) ∧ Below w0.heap.size w0 w' ∧ KeepQ w w' := by
 have HG := Aside0.mk hG
 have HM := Aside0.mk hm
 have HT := Aside0.mk h
 have HB := Aside0.mk hB
 obtain ⟨ok0, p0, er0, hx0, hs0⟩ := h
 have HX0 := Aside0.mk hx0
 have hst := uR_st s p0 er0 hx0.err
 have hu := hs0.u (s := s) hx0.err
 have hrg := uR_range s p0 er0
 have hf := uR_eq s p0 er0 hx0.err hz
 obtain ⟨⟨x, s', p', e'⟩, hr⟩ : ∃ r, uR s p0 er0 = r := ⟨_, rfl⟩
 rw [hr] at hst hu hrg hf
 obtain ⟨h1a, h1b⟩ := hst
 replace h1a : s' = s := h1a
 subst h1a
 have HF := Aside0.mk hf
 have HU := Aside0.mk hu
 have HRG := Aside0.mk (show 0 ≤ x ∧ x < 18446744073709551616 from hrg)
 have HE := Aside0.mk h1b
 have r0 := (blk_cell hx0.box 0).trans rfl
 clear hx0 hs0 hB hG hz hm hu hrg hf hr h1b
 by_cases k : x > most
 ·have hk1 : decide (most < x) = true := decide_eq_true k
  have HN := Aside0.mk (show numO s' most o = none by
   rw [numO_eq]
   cases hl : (o.bind fun p => uS s' p) with
   | none => rfl
   | some b =>
    obtain ⟨v, q⟩ := b
    have hvx := HU.out.2 v q hl
    rw [Option.bind_some, if_neg (by show ¬ v ≤ most; have h2 : x = v := hvx; omega)])
  clear k
  go_enter Tryd.func36, Tryd.ntmps36
  go_wp2_with (go_at_call 59; (with_reducible refine (codec_Reader_Unsigned.calls 40 gr s' p0 er0 x s' p' e' w0 _ HG.out HX0.out.rd HB.out HF.out).mono ?_); rintro e w1 ⟨rfl, hi, hb, hk⟩; have HX1 := Aside0.mk (HX0.out.but hk hi HE.out); have HB1 := Aside0.mk hb; have HK1 := Aside0.mk (KeepQ.of_but hk HX0.out.rd.1); have r1 := (blk_cell HX1.out.box 1).trans rfl; have f1 := blk_frozen HX1.out.box 1; clear hi hb hk r0)
  go_ret
  rw [HN.out]
  exact ⟨0, rfl, ⟨false, p', e', HX1.out.flag false, St.fail⟩, fun v q hq => (by cases hq), ⟨Int.le_refl 0, HM.out.1⟩, HB1.out.setCell (p := ⟨gR, 1, none⟩) HX1.out.low (.bool false), HK1.out.set HX1.out.box 1 (.bool false)⟩
 ·have hk1 : decide (most < x) = false := decide_eq_false k
  have hw : IntKind.i64.wrap x = x := by have h1 := HRG.out; have h2 := HM.out; rw [i64_w]; exact wrap_id (by omega) (by omega)
  have hw2 : wrap64 x = x := by have h1 := HRG.out; have h2 := HM.out; exact wrap_id (by omega) (by omega)
  have HN := Aside0.mk (show numO s' most o = o.bind fun p => uS s' p by
   rw [numO_eq]
   cases hl : (o.bind fun p => uS s' p) with
   | none => rfl
   | some b =>
    obtain ⟨v, q⟩ := b
    have hvx := HU.out.2 v q hl
    rw [Option.bind_some, if_pos (by show v ≤ most; have h2 : x = v := hvx; omega)])
  have HK := Aside0.mk (show 0 ≤ x ∧ x ≤ most by have := HRG.out; omega)
  clear k
  go_enter Tryd.func36, Tryd.ntmps36
  go_wp2_with (go_at_call 59; (with_reducible refine (codec_Reader_Unsigned.calls 40 gr s' p0 er0 x s' p' e' w0 _ HG.out HX0.out.rd HB.out HF.out).mono ?_); rintro e w1 ⟨rfl, hi, hb, hk⟩; have HX1 := Aside0.mk (HX0.out.but hk hi HE.out); have HB1 := Aside0.mk hb; have HK1 := Aside0.mk (KeepQ.of_but hk HX0.out.rd.1); have r1 := (blk_cell HX1.out.box 1).trans rfl; have f1 := blk_frozen HX1.out.box 1; clear hi hb hk r0)
  go_ret
  rw [HN.out]
  exact ⟨x, by first | rfl | rw [hw] | rw [hw2], ⟨ok0, p', e', HX1.out, HU.out.1⟩, HU.out.2, HK.out, HB1.out, HK1.out⟩
end Go.Proofs.YtbccjcdmpiolpaaDoor.T
end
section
namespace Go.Proofs.YtbccjcdmpiolpaaDoor.T
open Go.RowKit Go.Proofs.YtbccjcdmpiolpaaDoor.Pure Go.Proofs.YtbccjcdmpiolpaaDoorW.PrintWords Go.Proofs.YtbccjcdmpiolpaaDoorW.PrintLast Go.Proofs.YtbccjcdmpiolpaaDoorW.PrintMore
set_option linter.unusedVariables false
set_option linter.unusedSimpArgs false
attribute [local go_sem] max2_int min2_int max_two min_two
abbrev MI : Int := 6311433599
def recS (s : ByteArray) (o : Option Int) : Option (S44 × Int) :=
 (numO s MI (lstO s 5 o)).bind fun a => (numO s MI (some a.2)).bind fun b => (numO s 3 (some b.2)).bind fun c => (sS s c.2).bind fun d => (numO s 15 (some d.2)).bind fun e => some (⟨a.1, b.1, ⟨c.1, d.1⟩, e.1, 0⟩, e.2)
def loopS (s : ByteArray) (total now n : Int) : Nat → Int → Int → Int → Option (List S44 × Int)
 | 0, _, _, p => some ([], p)
 | d + 1, i, bf, p => (recS s (some p)).bind fun x => if x.1.f0 = total - n + 1 + i ∧ bf ≤ x.1.f1 ∧ x.1.f1 ≤ now then (loopS s total now n d (i + 1) x.1.f1 x.2).map fun r => (x.1 :: r.1, r.2) else none
def bodyS (s : ByteArray) (sz : Int) : Option (Int × Int × List S44) :=
 (numO s MI (lstO s 3 (some 0))).bind fun a => (numO s MI (some a.2)).bind fun b => (lS s b.2).bind fun c => if c.1 = mn a.1 sz then (loopS s a.1 b.1 c.1 c.1.toNat 0 0 c.2).bind fun r => if r.2 = (s.size : Int) then some (a.1, b.1, r.1) else none else none
def restS (s : ByteArray) (sz : Int) : Option (Int × Int × List S44) :=
 ((lstO s 2 (some 0)).bind fun p => tS s p).bind fun a => (tS s a.2).bind fun b => if b.2 = (s.size : Int) ∧ a.1.toList = (digB b.1).toList then bodyS b.1 sz else none
theorem none_map {α β : Type} {o : Option α} {f : α → β} (h : o.map f = none) : o = none := by
 cases o with
 | none => rfl
 | some a => cases h
theorem some_map {α β : Type} {o : Option α} {f : α → β} {b : β} (h : o.map f = some b) : ∃ a, o = some a ∧ f a = b := by
 cases o with
 | none => cases h
 | some a => exact ⟨a, rfl, by injection h⟩
theorem tS_size {s : ByteArray} {p : Int} {t : ByteArray} {e : Int} (h : tS s p = some (t, e)) : t.size ≤ s.size := by
 unfold tS at h
 split at h
 ·split at h
  ·rename_i u q hu
   split at h
   ·cases h
   ·split at h
    ·cases h
    ·injection h with h
     injection h with h1 h2
     subst h1
     have := uS_some hu
     rw [ext_size _ _ _ (by omega) (by omega)]
     omega
  ·cases h
 ·cases h
theorem rest_none {s : ByteArray} {sz : Int} (h : ((((lstO s 2 (some 0)).bind fun p => tS s p).map Prod.snd).bind fun p => tS s p).map Prod.snd = none) : restS s sz = none := by
 have h := none_map h
 unfold restS
 cases h1 : ((lstO s 2 (some 0)).bind fun p => tS s p) with
 | none => rfl
 | some a =>
  rw [h1, Option.map_some, Option.bind_some] at h
  rw [Option.bind_some, h]
  rfl
theorem rest_some {s : ByteArray} {sz p : Int} {xd xb : ByteArray} (h : ((((lstO s 2 (some 0)).bind fun p => tS s p).map Prod.snd).bind fun p => tS s p).map Prod.snd = some p)
  (h1 : ∀ v q, ((lstO s 2 (some 0)).bind fun p => tS s p) = some (v, q) → xd = v) (h2 : ∀ v q, ((((lstO s 2 (some 0)).bind fun p => tS s p).map Prod.snd).bind fun p => tS s p) = some (v, q) → xb = v) :
  restS s sz = (if p = (s.size : Int) ∧ xd.toList = (digB xb).toList then bodyS xb sz else none) ∧ xb.size ≤ s.size ∧ p ≤ (s.size : Int) := by
 obtain ⟨b, hb, he⟩ := some_map h
 obtain ⟨vb, qb⟩ := b
 replace he : qb = p := he
 subst he
 have hb2 := h2 vb qb hb
 subst hb2
 cases ha : ((lstO s 2 (some 0)).bind fun p => tS s p) with
 | none => rw [ha] at hb; cases hb
 | some a =>
  obtain ⟨va, qa⟩ := a
  have ha2 := h1 va qa ha
  subst ha2
  rw [ha, Option.map_some, Option.bind_some] at hb
  unfold restS
  rw [ha, Option.bind_some]
  simp only []
  rw [hb, Option.bind_some]
  exact ⟨rfl, tS_size hb, (tS_some hb).2.2⟩
theorem body_none {s : ByteArray} {sz : Int} (h : ((((numO s MI ((numO s MI (lstO s 3 (some 0))).map Prod.snd)).map Prod.snd).bind fun p => lS s p).map Prod.snd) = none) : bodyS s sz = none := by
 have h := none_map h
 unfold bodyS
 cases h1 : numO s MI (lstO s 3 (some 0)) with
 | none => rfl
 | some a =>
  rw [h1, Option.map_some] at h
  rw [Option.bind_some]
  cases h2 : numO s MI (some a.2) with
  | none => rfl
  | some b =>
   rw [h2, Option.map_some, Option.bind_some] at h
   rw [Option.bind_some, h]
   rfl
theorem body_some {s : ByteArray} {sz p x1 x2 x3 : Int} (h : ((((numO s MI ((numO s MI (lstO s 3 (some 0))).map Prod.snd)).map Prod.snd).bind fun p => lS s p).map Prod.snd) = some p)
  (h1 : ∀ v q, numO s MI (lstO s 3 (some 0)) = some (v, q) → x1 = v) (h2 : ∀ v q, numO s MI ((numO s MI (lstO s 3 (some 0))).map Prod.snd) = some (v, q) → x2 = v) (h3 : ∀ v q, (((numO s MI ((numO s MI (lstO s 3 (some 0))).map Prod.snd)).map Prod.snd).bind fun p => lS s p) = some (v, q) → x3 = v) :
  bodyS s sz = (if x3 = mn x1 sz then (loopS s x1 x2 x3 x3.toNat 0 0 p).bind fun r => if r.2 = (s.size : Int) then some (x1, x2, r.1) else none else none) ∧ 0 ≤ x3 ∧ x3 ≤ 65535 := by
 obtain ⟨c, hc, he⟩ := some_map h
 obtain ⟨vc, qc⟩ := c
 replace he : qc = p := he
 subst he
 have e3 := h3 vc qc hc
 subst e3
 cases ha : numO s MI (lstO s 3 (some 0)) with
 | none => rw [ha] at hc; cases hc
 | some a =>
  obtain ⟨va, qa⟩ := a
  have e1 := h1 va qa ha
  subst e1
  rw [ha, Option.map_some] at hc h2
  cases hb : numO s MI (some qa) with
  | none => rw [hb] at hc; cases hc
  | some b =>
   obtain ⟨vb, qb⟩ := b
   have e2 := h2 vb qb hb
   subst e2
   rw [hb, Option.map_some, Option.bind_some] at hc
   unfold bodyS
   rw [ha, Option.bind_some]
   simp only []
   rw [hb, Option.bind_some]
   simp only []
   rw [hc, Option.bind_some]
   have := lS_some hc
   exact ⟨rfl, this.2.2.2.1, this.2.2.2.2⟩
abbrev o1R (s : ByteArray) (o : Option Int) : Option (Int × Int) := numO s MI (lstO s 5 o)
abbrev o2R (s : ByteArray) (o : Option Int) : Option (Int × Int) := numO s MI ((o1R s o).map Prod.snd)
abbrev o3R (s : ByteArray) (o : Option Int) : Option (Int × Int) := numO s 3 ((o2R s o).map Prod.snd)
abbrev o4R (s : ByteArray) (o : Option Int) : Option (Int × Int) := ((o3R s o).map Prod.snd).bind fun p => sS s p
abbrev o5R (s : ByteArray) (o : Option Int) : Option (Int × Int) := numO s 15 ((o4R s o).map Prod.snd)
theorem rec_none {s : ByteArray} {o : Option Int} (h : (o5R s o).map Prod.snd = none) : recS s o = none := by
 have h := none_map h
 unfold o5R o4R o3R o2R o1R at h
 unfold recS
 cases h1 : numO s MI (lstO s 5 o) with
 | none => rfl
 | some a =>
  rw [h1, Option.map_some] at h
  rw [Option.bind_some]
  cases h2 : numO s MI (some a.2) with
  | none => rfl
  | some b =>
   rw [h2, Option.map_some] at h
   rw [Option.bind_some]
   cases h3 : numO s 3 (some b.2) with
   | none => rfl
   | some c =>
    rw [h3, Option.map_some, Option.bind_some] at h
    rw [Option.bind_some]
    cases h4 : sS s c.2 with
    | none => rfl
    | some d =>
     rw [h4, Option.map_some] at h
     rw [Option.bind_some, h]
     rfl
theorem rec_some {s : ByteArray} {o : Option Int} {p x0 x1 x2 x3 x4 : Int} (h : (o5R s o).map Prod.snd = some p)
  (e0 : ∀ v q, o1R s o = some (v, q) → x0 = v) (e1 : ∀ v q, o2R s o = some (v, q) → x1 = v) (e2 : ∀ v q, o3R s o = some (v, q) → x2 = v) (e3 : ∀ v q, o4R s o = some (v, q) → x3 = v) (e4 : ∀ v q, o5R s o = some (v, q) → x4 = v) :
  recS s o = some (⟨x0, x1, ⟨x2, x3⟩, x4, 0⟩, p) := by
 unfold o5R at h e4
 unfold o4R at h e3 e4
 unfold o3R at h e2 e3 e4
 unfold o2R at h e1 e2 e3 e4
 unfold o1R at h e0 e1 e2 e3 e4
 unfold recS
 cases h1 : numO s MI (lstO s 5 o) with
 | none => rw [h1] at h; cases h
 | some a =>
  obtain ⟨va, qa⟩ := a
  have := e0 va qa h1
  subst this
  rw [h1, Option.map_some] at h e1 e2 e3 e4
  rw [Option.bind_some]
  simp only []
  cases h2 : numO s MI (some qa) with
  | none => rw [h2] at h; cases h
  | some b =>
   obtain ⟨vb, qb⟩ := b
   have := e1 vb qb h2
   subst this
   rw [h2, Option.map_some] at h e2 e3 e4
   rw [Option.bind_some]
   simp only []
   cases h3 : numO s 3 (some qb) with
   | none => rw [h3] at h; cases h
   | some c =>
    obtain ⟨vc, qc⟩ := c
    have := e2 vc qc h3
    subst this
    rw [h3, Option.map_some, Option.bind_some] at h e3 e4
    rw [Option.bind_some]
    simp only []
    cases h4 : sS s qc with
    | none => rw [h4] at h; cases h
    | some d =>
     obtain ⟨vd, qd⟩ := d
     have := e3 vd qd h4
     subst this
     rw [h4, Option.map_some] at h e4
     rw [Option.bind_some]
     simp only []
     cases h5 : numO s 15 (some qd) with
     | none => rw [h5] at h; cases h
     | some f =>
      obtain ⟨vf, qf⟩ := f
      have := e4 vf qf h5
      subst this
      rw [h5, Option.map_some] at h
      injection h with h
      rw [Option.bind_some]
      simp only []
      rw [← h]
end Go.Proofs.YtbccjcdmpiolpaaDoor.T
end
section
namespace Go.Proofs.YtbccjcdmpiolpaaDoor.Pure
open Go.RowKit Go.Proofs.YtbccjcdmpiolpaaDoor.T Go.Proofs.YtbccjcdmpiolpaaDoorW.PrintWords Go.Proofs.YtbccjcdmpiolpaaDoorW.PrintLast Go.Proofs.YtbccjcdmpiolpaaDoorW.PrintMore
set_option linter.unusedVariables false
set_option linter.unusedSimpArgs false
end Go.Proofs.YtbccjcdmpiolpaaDoor.Pure
end
section
namespace Go.Proofs.YtbccjcdmpiolpaaDoor.T
open Go.RowKit Go.Proofs.YtbccjcdmpiolpaaDoorW.PrintWords Go.Proofs.YtbccjcdmpiolpaaDoorW.PrintLast Go.Proofs.YtbccjcdmpiolpaaDoorW.PrintMore
attribute [local go_sem] max2_int min2_int max_two min_two max_three min_three max_four min_four
set_option linter.unusedVariables false
set_option linter.unusedSimpArgs false
mutual
def plenumref02_Digest.l0 : Nat → ByteArray → Int → Int → Option (ByteArray)
 | 0, _, _, _ => none
 | k + 1, x0, x3, x4 => if x4 < (x0.size : Int) then (if 0 ≤ x4 then (plenumref02_Digest.l0 k x0 (IntKind.u64.wrap ((Go.bits .xor .u64 x3 (IntKind.u64.wrap (bt x0 x4))) * 1099511628211)) (wrap64 (x4 + 1))) else (none)) else (plenumref02_Digest.l1 k x3 (⟨#[]⟩ : ByteArray) 0)
def plenumref02_Digest.l1 : Nat → Int → ByteArray → Int → Option (ByteArray)
 | 0, _, _, _ => none
 | k + 1, x3, x5, x6 => if x6 < 16 then (if 0 ≤ (Int.tmod x3 16) then (if (Int.tmod x3 16) < 16 then ((some (([bt (⟨#[48, 49, 50, 51, 52, 53, 54, 55, 56, 57, 97, 98, 99, 100, 101, 102]⟩ : ByteArray) (Int.tmod x3 16)] : List Int) : List Int)).bind fun y210 => (if (strOfNums y210).size + x5.size ≤ 9223372036854775807 then (plenumref02_Digest.l1 k (IntKind.u64.wrap (Int.tdiv x3 16)) ((strOfNums y210) ++ x5) (wrap64 (x6 + 1))) else (none))) else (none)) else (none)) else (some x5)
end
def plenumref02_Digest.f (k : Nat) (a0 : ByteArray) : Option (ByteArray) := plenumref02_Digest.l0 k a0 14695981039346656037 0
set_option maxHeartbeats 8000000 in
set_option maxRecDepth 100000 in
theorem plenumref02_Digest.calls (k : Nat) (a0 : ByteArray) (r : ByteArray) (w : World) (hG : Glob w) (h : plenumref02_Digest.f k a0 = some r) :
  Calls Tryd.prog 42 #[.string a0] w fun e w' => e = .returned (.string r) ∧ Below w.heap.size w w' := by
 have HG := Aside0.mk hG
 clear hG
 have HB := Aside0.mk (Below.refl w.heap.size w)
 have H : (plenumref02_Digest.l0 k a0 14695981039346656037 0) = some r := h
 clear h
 have H' := Aside0.mk H
 clear H
 go_enter Tryd.func42, Tryd.ntmps42
 go_wp2
 go_loopg [3, 4] k (fun kq v3 v4 w' => ∃ (x3_1 : Int) (x4_1 : Int), v3 = .int .u64 x3_1 ∧ v4 = .int .i64 x4_1 ∧ Aside0 (plenumref02_Digest.l0 kq a0 x3_1 x4_1 = some r) ∧ Aside0 (kq ≤ k) ∧ Aside0 (Below w.heap.size w w'))
 case atStart => exact ⟨(14695981039346656037), (0), (by first | rfl | (simp; done) | (simp [*]; done)), (by first | rfl | (simp; done) | (simp [*]; done)), H', ⟨Nat.le_refl _⟩, ⟨by repeat (first | (with_reducible first | exact HB.out | apply below_alloc | apply pw_below_drewN | apply below_drew1) | exact HB.out)⟩⟩
 case round =>
  clear H'
  obtain ⟨x3_1, x4_1, rfl, rfl, HA, HK1, HB⟩ := hrel
  cases gk with
  | zero => exact absurd HA.out (by simp [plenumref02_Digest.l0])
  | succ k1 =>
   have H := HA.out
   clear HA
   simp only [plenumref02_Digest.l0] at H
   by_cases c2 : x4_1 < (a0.size : Int)
   ·rw [if_pos c2] at H
    have c2b0 : decide (x4_1 < (a0.size : Int)) = true := decide_eq_true c2
    clear c2
    by_cases c3 : 0 ≤ x4_1
    ·rw [if_pos c3] at H
     have c3b0 : decide (0 ≤ x4_1) = true := decide_eq_true c3
     clear c3
     have H' := Aside0.mk H
     clear H
     have p4 : 0 ≤ (x4_1 : Int) := of_decide_eq_true (by first | (with_reducible assumption) | assumption)
     have q4 : x4_1 < (a0.size : Int) := of_decide_eq_true (by first | (with_reducible assumption) | assumption)
     have hx4 := bt_at a0 x4_1
     replace p4 := eq_true p4
     replace q4 := eq_true q4
     go_wp2
     go_roundg k1
     case measure => have := HK1.out; omega
     case rel => exact ⟨(IntKind.u64.wrap ((Go.bits .xor .u64 x3_1 (IntKind.u64.wrap (bt a0 x4_1))) * 1099511628211)), (wrap64 (x4_1 + 1)), (by first | rfl | (simp; done) | (simp [*]; done)), (by first | rfl | (simp; done) | (simp [*]; done)), H', ⟨by have := HK1.out; omega⟩, ⟨by repeat (first | (with_reducible first | exact HB.out | apply below_alloc | apply pw_below_drewN | apply below_drew1) | exact HB.out)⟩⟩
    ·rw [if_neg c3] at H
     exact absurd H (by simp)
   ·rw [if_neg c2] at H
    have c2b0 : decide (x4_1 < (a0.size : Int)) = false := decide_eq_false c2
    clear c2
    have H' := Aside0.mk H
    clear H
    go_wp2
    go_loopg [3, 5, 6] k1 (fun kq v3 v5 v6 w' => ∃ (x3_2 : Int) (x5_2 : ByteArray) (x6_2 : Int), v3 = .int .u64 x3_2 ∧ v5 = .string x5_2 ∧ v6 = .int .i64 x6_2 ∧ Aside0 (plenumref02_Digest.l1 kq x3_2 x5_2 x6_2 = some r) ∧ Aside0 (kq ≤ k1) ∧ Aside0 (Below w.heap.size w w'))
    case atStart => exact ⟨(x3_1), ((⟨#[]⟩ : ByteArray)), (0), (by first | rfl | (simp; done) | (simp [*]; done)), (by first | rfl | (simp; done) | (simp [*]; done)), (by first | rfl | (simp; done) | (simp [*]; done)), H', ⟨Nat.le_refl _⟩, ⟨by repeat (first | (with_reducible first | exact HB.out | apply below_alloc | apply pw_below_drewN | apply below_drew1) | exact HB.out)⟩⟩
    case round =>
     clear H'
     try clear c2
     try clear c2b0
     try clear p2
     try clear c3
     try clear c3b0
     try clear c4
     try clear p4
     try clear q4
     try clear hx4
     try clear p4
     try clear q4
     obtain ⟨x3_2, x5_2, x6_2, rfl, rfl, rfl, HA, HK2, HB⟩ := hrel
     cases gk with
     | zero => exact absurd HA.out (by simp [plenumref02_Digest.l1])
     | succ k2 =>
      have H := HA.out
      clear HA
      simp only [plenumref02_Digest.l1] at H
      by_cases c5 : x6_2 < 16
      ·rw [if_pos c5] at H
       have c5b0 : decide (x6_2 < 16) = true := decide_eq_true c5
       clear c5
       obtain ⟨ji6, hji6⟩ : ∃ j_ : Int, (Int.tmod x3_2 16) = j_ := ⟨_, rfl⟩
       replace H : (if 0 ≤ (ji6) then (if (ji6) < 16 then ((some (([bt (⟨#[48, 49, 50, 51, 52, 53, 54, 55, 56, 57, 97, 98, 99, 100, 101, 102]⟩ : ByteArray) (ji6)] : List Int) : List Int)).bind fun y210 => (if (strOfNums y210).size + x5_2.size ≤ 9223372036854775807 then (plenumref02_Digest.l1 k2 (IntKind.u64.wrap (Int.tdiv x3_2 16)) ((strOfNums y210) ++ x5_2) (wrap64 (x6_2 + 1))) else (none))) else (none)) else (none)) = some r := by first | (rw [hji6] at H; exact H) | (simp only [hji6] at H ⊢; exact H)
       by_cases c7 : 0 ≤ (ji6)
       ·rw [if_pos c7] at H
        have c7b0 : decide (0 ≤ (ji6)) = true := decide_eq_true c7
        clear c7
        by_cases c8 : (ji6) < 16
        ·rw [if_pos c8] at H
         have c8b0 : decide ((ji6) < 16) = true := decide_eq_true c8
         clear c8
         obtain ⟨y210, hy210⟩ : ∃ y_ : List Int, y_ = (([bt (⟨#[48, 49, 50, 51, 52, 53, 54, 55, 56, 57, 97, 98, 99, 100, 101, 102]⟩ : ByteArray) (ji6)] : List Int)) := ⟨_, rfl⟩
         replace H : (if (strOfNums y210).size + x5_2.size ≤ 9223372036854775807 then (plenumref02_Digest.l1 k2 (IntKind.u64.wrap (Int.tdiv x3_2 16)) ((strOfNums y210) ++ x5_2) (wrap64 (x6_2 + 1))) else (none)) = some r := by first | (rw [hy210]; with_reducible exact H) | (have H2_ := (Option.bind_some _ _).symm.trans H; rw [hy210]; with_reducible exact H2_) | (have H2_ := (Option.bind_some _ _).symm.trans H; with_reducible exact H2_) | with_reducible exact H | (rw [hy210]; exact H) | exact H
         have Ny210 := Aside0.mk hy210
         clear hy210
         by_cases c10 : (strOfNums y210).size + x5_2.size ≤ 9223372036854775807
         ·rw [if_pos c10] at H
          have c10b0 := eq_true c10
          have c10b1 : decide ((strOfNums y210).size + x5_2.size ≤ 9223372036854775807) = true := decide_eq_true c10
          try have c10b2 : (9223372036854775807 < (strOfNums y210).size + x5_2.size) = False := eq_false (Nat.not_lt.2 c10)
          have H' := Aside0.mk H
          clear H
          have p9 : 0 ≤ ((ji6) : Int) := of_decide_eq_true (by first | (with_reducible assumption) | assumption)
          have q9 : (ji6) < (16 : Int) := of_decide_eq_true (by first | (with_reducible assumption) | assumption)
          have hx9 := bt_at (⟨#[48, 49, 50, 51, 52, 53, 54, 55, 56, 57, 97, 98, 99, 100, 101, 102]⟩ : ByteArray) (ji6)
          replace p9 := eq_true p9
          replace q9 := eq_true q9
          go_wp2_with (first | ((with_reducible refine gate_dst (N := 27) rfl ?_); refine Kd.R_lit (Kd.int .u8) _ 5 ?hg (N := 27) ?hd (xs := ([bt (⟨#[48, 49, 50, 51, 52, 53, 54, 55, 56, 57, 97, 98, 99, 100, 101, 102]⟩ : ByteArray) (ji6)] : List Int)) (inner := [.int .u8 (bt (⟨#[48, 49, 50, 51, 52, 53, 54, 55, 56, 57, 97, 98, 99, 100, 101, 102]⟩ : ByteArray) (ji6))]) (ok := fun _ => True) (okp := fun _ => True) ?hr ?hp (fun _ hk => hk) trivial (Below.refl _ _) (Nat.le_refl _) (by simp) ?_; (case hd => rfl); (case hg => rfl); (case hr => first | (go_simp; done) | (go_simp; rfl)); (case hp => exact (Reps.one (show Kd.M (Kd.int .u8) _ _ _ (bt (⟨#[48, 49, 50, 51, 52, 53, 54, 55, 56, 57, 97, 98, 99, 100, 101, 102]⟩ : ByteArray) (ji6)) [.int .u8 (bt (⟨#[48, 49, 50, 51, 52, 53, 54, 55, 56, 57, 97, 98, 99, 100, 101, 102]⟩ : ByteArray) (ji6))] from rfl) (Reps.none _ _))); intro v211 w11 ho12 hb hg_ hnew_; clear hg_ hnew_; (first | rw [← Ny210.out] at ho12 | (simp only [Int.reduceToNat] at ho12; rw [← Ny210.out] at ho12)); have n0_ := Aside0.mk (Kd.R_lower ho12 (below_size (by repeat (first | (with_reducible first | exact HB.out | apply below_alloc | apply pw_below_drewN | apply below_drew1) | exact HB.out)))); have n1_ := Aside0.mk (below_step (by repeat (first | (with_reducible first | exact HB.out | apply below_alloc | apply pw_below_drewN | apply below_drew1) | exact HB.out)) hb); clear HB; have HO212 := n0_; have HB := n1_; clear n0_ n1_; clear hb ho12; have hcv13 := own_string (P := Tryd.prog) Tryd.underlying88 Tryd.underlying5 Tryd.underlying9 (Kd.own_of_R HO212.out)))
          go_roundg k2
          case measure => have := HK1.out; have := HK2.out; omega
          case rel => exact ⟨(IntKind.u64.wrap (Int.tdiv x3_2 16)), ((strOfNums y210) ++ x5_2), (wrap64 (x6_2 + 1)), (by first | rfl | (simp; done) | (simp [*]; done)), (by first | rfl | (simp; done) | (simp [*]; done)), (by first | rfl | (simp; done) | (simp [*]; done)), H', ⟨by have := HK1.out; have := HK2.out; omega⟩, ⟨by repeat (first | (with_reducible first | exact HB.out | apply below_alloc | apply pw_below_drewN | apply below_drew1) | exact HB.out)⟩⟩
         ·rw [if_neg c10] at H
          exact absurd H (by simp)
        ·rw [if_neg c8] at H
         exact absurd H (by simp)
       ·rw [if_neg c7] at H
        exact absurd H (by simp)
      ·rw [if_neg c5] at H
       have c5b0 : decide (x6_2 < 16) = false := decide_eq_false c5
       clear c5
       obtain rfl := Option.some.inj H
       go_wp2
       go_ret
       exact ⟨by first | rfl | (simp [errW_none, errW_some] <;> rfl) | (simp [*, errW_none, errW_some] <;> rfl), by repeat (first | (with_reducible first | exact HB.out | apply below_alloc | apply pw_below_drewN | apply below_drew1) | exact HB.out)⟩
end Go.Proofs.YtbccjcdmpiolpaaDoor.T
end
section
namespace Go.Proofs.YtbccjcdmpiolpaaDoor.Pure
open Go.RowKit Go.Proofs.YtbccjcdmpiolpaaDoor.T Go.Proofs.YtbccjcdmpiolpaaDoorW.PrintWords Go.Proofs.YtbccjcdmpiolpaaDoorW.PrintLast Go.Proofs.YtbccjcdmpiolpaaDoorW.PrintMore
set_option linter.unusedVariables false
set_option linter.unusedSimpArgs false
def hexTab : ByteArray := ⟨#[48, 49, 50, 51, 52, 53, 54, 55, 56, 57, 97, 98, 99, 100, 101, 102]⟩
def hexN (x : Int) : Int := bt hexTab x
theorem and15_u64 (x : Int) (h0 : 0 ≤ x) (h1 : x < 18446744073709551616) : Go.bits .and .u64 x 15 = x % 16 := by
 obtain ⟨n, rfl⟩ := Int.eq_ofNat_of_zero_le h0
 show IntKind.u64.wrap (((BitVec.ofInt 64 (n : Int)) &&& (BitVec.ofInt 64 15)).toNat : Int) = _
 rw [BitVec.toNat_and, BitVec.toNat_ofInt, BitVec.toNat_ofInt]
 have e1 : ((n : Int) % ((2 ^ 64 : Nat) : Int)).toNat = n := by omega
 have e2 : ((15 : Int) % ((2 ^ 64 : Nat) : Int)).toNat = 2 ^ 4 - 1 := by decide
 rw [e1, e2, Nat.and_two_pow_sub_one_eq_mod, u64w]
 omega
def dg (h : Int) : Nat → List Int
 | 0 => []
 | i + 1 => hexN (h / 16 ^ i % 16) :: dg h i
theorem dg_length (h : Int) (n : Nat) : (dg h n).length = n := by
 induction n with
 | zero => rfl
 | succ n ih => simp [dg, ih]
theorem hexAt_eq (h : Int) (h0 : 0 ≤ h) (h1 : h < 18446744073709551616) (i j : Nat) (hij : 60 - 4 * i = 4 * j) : hexAt h i = hexN (h / 16 ^ j % 16) := by
 unfold hexAt
 rw [hij]
 have e : (2 : Int) ^ (4 * j) = 16 ^ j := by rw [Int.pow_mul]; rfl
 have hp : (0 : Int) < 16 ^ j := Int.pow_pos (by decide)
 have hq : 0 ≤ h / 16 ^ j := Int.ediv_nonneg h0 (Int.le_of_lt hp)
 have hr : h / 16 ^ j ≤ h := Int.ediv_le_self _ h0
 rw [e, and15_u64 _ hq (by omega)]
 rfl
theorem digits_dg (h : Int) (h0 : 0 ≤ h) (h1 : h < 18446744073709551616) : digits h = dg h 16 := by
 unfold digits
 rw [show List.range 16 = [0, 1, 2, 3, 4, 5, 6, 7, 8, 9, 10, 11, 12, 13, 14, 15] from rfl]
 simp only [List.map_cons, List.map_nil, dg]
 rw [hexAt_eq h h0 h1 0 15 rfl, hexAt_eq h h0 h1 1 14 rfl, hexAt_eq h h0 h1 2 13 rfl, hexAt_eq h h0 h1 3 12 rfl, hexAt_eq h h0 h1 4 11 rfl, hexAt_eq h h0 h1 5 10 rfl, hexAt_eq h h0 h1 6 9 rfl, hexAt_eq h h0 h1 7 8 rfl,
  hexAt_eq h h0 h1 8 7 rfl, hexAt_eq h h0 h1 9 6 rfl, hexAt_eq h h0 h1 10 5 rfl, hexAt_eq h h0 h1 11 4 rfl, hexAt_eq h h0 h1 12 3 rfl, hexAt_eq h h0 h1 13 2 rfl, hexAt_eq h h0 h1 14 1 rfl, hexAt_eq h h0 h1 15 0 rfl]
theorem dig_range (s : ByteArray) (n : Nat) : 0 ≤ dig s n ∧ dig s n < 18446744073709551616 := by
 cases n with
 | zero =>
  show 0 ≤ (14695981039346656037 : Int) ∧ (14695981039346656037 : Int) < 18446744073709551616
  decide
 | succ n =>
  show 0 ≤ (_ % 18446744073709551616 : Int) ∧ (_ % 18446744073709551616 : Int) < 18446744073709551616
  omega
theorem ref_l1 (h : Int) (h0 : 0 ≤ h) (h1 : h < 18446744073709551616) : ∀ (d i : Nat), i + d = 16 → ∀ k, plenumref02_Digest.l1 (k + d + 1) (h / 16 ^ i) (strOfNums (dg h i)) (i : Int) = some (strOfNums (dg h 16)) := by
 intro d
 induction d with
 | zero =>
  intro i hi k
  obtain rfl : i = 16 := by omega
  rw [show k + 0 + 1 = k + 1 by omega, plenumref02_Digest.l1, if_neg (by omega)]
 | succ d ih =>
  intro i hi k
  have hp : (0 : Int) < 16 ^ i := Int.pow_pos (by decide)
  have hq : 0 ≤ h / 16 ^ i := Int.ediv_nonneg h0 (Int.le_of_lt hp)
  have hr : h / 16 ^ i ≤ h := Int.ediv_le_self _ h0
  have hs : (strOfNums (dg h i)).size = i := by rw [strOfNums_size, dg_length]
  rw [show k + (d + 1) + 1 = (k + d + 1) + 1 by omega, plenumref02_Digest.l1, if_pos (by omega), Int.tmod_eq_emod_of_nonneg hq, if_pos (by omega), if_pos (by omega)]
  rw [Option.bind_some, if_pos (by rw [strOfNums_size, hs]; simp; omega), ← strOfNums_app, Int.tdiv_eq_ediv_of_nonneg hq, u64w, Int.emod_eq_of_lt (by omega) (by omega), w64 (n := (i : Int) + 1) (by omega) (by omega)]
  have e := ih (i + 1) (by omega) k
  rw [Int.pow_succ, ← Int.ediv_ediv_of_nonneg (Int.le_of_lt hp), show ((i + 1 : Nat) : Int) = (i : Int) + 1 by omega] at e
  exact e
theorem ref_l0 (s : ByteArray) (hz : s.size ≤ 140737488355327) : ∀ (d i : Nat), i + d = s.size → ∀ k, plenumref02_Digest.l0 (k + d + 18) s (dig s i) (i : Int) = some (strOfNums (dg (dig s s.size) 16)) := by
 intro d
 induction d with
 | zero =>
  intro i hi k
  obtain rfl : i = s.size := by omega
  have hr := dig_range s s.size
  rw [show k + 0 + 18 = (k + 17) + 1 by omega, plenumref02_Digest.l0, if_neg (by omega)]
  have e := ref_l1 (dig s s.size) hr.1 hr.2 16 0 rfl k
  rw [show dig s s.size / 16 ^ 0 = dig s s.size by simp] at e
  exact e
 | succ d ih =>
  intro i hi k
  rw [show k + (d + 1) + 18 = (k + d + 18) + 1 by omega, plenumref02_Digest.l0, if_pos (by omega), if_pos (by omega), w64 (n := (i : Int) + 1) (by omega) (by omega)]
  have e := ih (i + 1) (by omega) k
  rw [show ((i + 1 : Nat) : Int) = (i : Int) + 1 by omega] at e
  exact e
theorem refDigest (s : ByteArray) (hz : s.size ≤ 140737488355327) (k : Nat) : plenumref02_Digest.f (k + s.size + 18) s = some (strOfNums (digits (dig s s.size))) := by
 have hr := dig_range s s.size
 rw [digits_dg _ hr.1 hr.2]
 exact ref_l0 s hz s.size 0 (by omega) k
end Go.Proofs.YtbccjcdmpiolpaaDoor.Pure
end
section
namespace Go.Proofs.YtbccjcdmpiolpaaDoor.T
open Go.RowKit Go.Proofs.YtbccjcdmpiolpaaDoorW.PrintWords Go.Proofs.YtbccjcdmpiolpaaDoorW.PrintLast Go.Proofs.YtbccjcdmpiolpaaDoorW.PrintMore
attribute [local go_sem] max2_int min2_int max_two min_two max_three min_three max_four min_four
set_option linter.unusedVariables false
set_option linter.unusedSimpArgs false
def IsS86 (w0 W : World) (g : Nat) (f0 : ByteArray) (f1 : Int) (f2 : Bool) : Prop := W.heap[g]? = some (.cells #[.string f0, .int .i64 f1, .bool f2] 86 (0, 0)) ∧ w0.heap.size ≤ g
theorem IsS86.grown {w0 W : World} {g : Nat} {f0 : ByteArray} {f1 : Int} {f2 : Bool} {W1 : World} {row : Option Nat} (h : IsS86 w0 W g f0 f1 f2) (hw : W.grownBy W1 row) (hne : some g ≠ row) : IsS86 w0 W1 g f0 f1 f2 := by
 obtain ⟨hb, hg⟩ := h
 exact ⟨blk_grown hb hw hne, hg⟩
theorem IsS86.below {w0 W : World} {g : Nat} {f0 : ByteArray} {f1 : Int} {f2 : Bool} {W1 : World} (h : IsS86 w0 W g f0 f1 f2) (hw : Below W.heap.size W W1) : IsS86 w0 W1 g f0 f1 f2 := h.grown (grown_of_below hw none) (by simp)
theorem IsS86.drew {w0 W : World} {g : Nat} {f0 : ByteArray} {f1 : Int} {f2 : Bool} (h : IsS86 w0 W g f0 f1 f2) : IsS86 w0 W.drew g f0 f1 f2 := h
theorem IsS86.ge {w0 W : World} {g : Nat} {f0 : ByteArray} {f1 : Int} {f2 : Bool} (h : IsS86 w0 W g f0 f1 f2) : w0.heap.size ≤ g := by
 obtain ⟨hb, hg⟩ := h
 exact hg
theorem IsS86.far {w0 W : World} {g : Nat} {f0 : ByteArray} {f1 : Int} {f2 : Bool} {p : Addr} (h : IsS86 w0 W g f0 f1 f2) (hne : g ≠ p.block) (u : Value) : IsS86 w0 (W.setCell p u) g f0 f1 f2 := by
 obtain ⟨hb, hg⟩ := h
 exact ⟨blk_far hb hne u, hg⟩
theorem cellS86_0 {W : World} {g : Nat} {f0 : ByteArray} {f1 : Int} {f2 : Bool} (h : W.heap[g]? = some (.cells #[.string f0, .int .i64 f1, .bool f2] 86 (0, 0))) : W.cell? ⟨g, 0, none⟩ = some (.string f0) := (blk_cell h 0).trans rfl
theorem cellS86_1 {W : World} {g : Nat} {f0 : ByteArray} {f1 : Int} {f2 : Bool} (h : W.heap[g]? = some (.cells #[.string f0, .int .i64 f1, .bool f2] 86 (0, 0))) : W.cell? ⟨g, 1, none⟩ = some (.int .i64 f1) := (blk_cell h 1).trans rfl
theorem IsS86.set_1 {w0 W : World} {g : Nat} {f0 : ByteArray} {f1 : Int} {f2 : Bool} (h : IsS86 w0 W g f0 f1 f2) (x : Int) : IsS86 w0 (W.setCell ⟨g, 1, none⟩ (.int .i64 x)) g f0 x f2 := by
 obtain ⟨hb, hg⟩ := h
 exact ⟨by simpa using blk_set hb 1 (.int .i64 x), hg⟩
theorem cellS86_2 {W : World} {g : Nat} {f0 : ByteArray} {f1 : Int} {f2 : Bool} (h : W.heap[g]? = some (.cells #[.string f0, .int .i64 f1, .bool f2] 86 (0, 0))) : W.cell? ⟨g, 2, none⟩ = some (.bool f2) := (blk_cell h 2).trans rfl
theorem IsS86.set_2 {w0 W : World} {g : Nat} {f0 : ByteArray} {f1 : Int} {f2 : Bool} (h : IsS86 w0 W g f0 f1 f2) (x : Bool) : IsS86 w0 (W.setCell ⟨g, 2, none⟩ (.bool x)) g f0 f1 x := by
 obtain ⟨hb, hg⟩ := h
 exact ⟨by simpa using blk_set hb 2 (.bool x), hg⟩
def plenumref41_in_head.f (k : Nat) (s0_0 : ByteArray) (s0_1 : Int) (s0_2 : Bool) : Option (Int × ByteArray × Int × Bool) := (plenumref02_ReadHead.f k s0_0 s0_1).bind fun bt201 => (if s0_2 = true then (some (0, s0_0, s0_1, true)) else (if bt201.2.2 = true then (some (bt201.1, s0_0, bt201.2.1, s0_2)) else (some (0, s0_0, s0_1, true))))
def plenumref41_in_head.T1 : Bool × List (List Nat × List Nat) := (true, [([], []), ([0], [0]), ([1], [1]), ([2], [2]), ([], []), ([4], [4]), ([5], [5]), ([6], [6]), ([3, 7], [3, 7]), ([8], [8]), ([9], [9]), ([9], [9]), ([9], [9]), ([10, 8, 0, 1, 2, 3, 4, 5, 6, 7, 8, 9, 10], [10]), ([11, 13, 0, 1, 2, 3, 4, 5, 6, 7, 8, 9, 10, 11, 13], [11]), ([12, 14, 0, 1, 2, 3, 4, 5, 6, 7, 8, 9, 10, 11, 12, 13, 14], [12])])
def plenumref41_in_head.B1 : List Nat := [0, 1, 3, 7, 0, 16, 48, 112, 255, 511, 1023, 1023, 1023, 2047, 12287, 32767]
theorem plenumref41_in_head.tab1 : rtab .any (opsOf Tryd.f40 1) = plenumref41_in_head.T1 := by kernel_rfl
theorem plenumref41_in_head.bits1 : waitsOk plenumref41_in_head.T1.2 plenumref41_in_head.B1 = true := by kernel_rfl
set_option maxHeartbeats 8000000 in
set_option maxRecDepth 100000 in
theorem plenumref41_in_head.calls (k : Nat) (g : Nat) (s0_0 : ByteArray) (s0_1 : Int) (s0_2 : Bool) (r1 : Int) (r2 : ByteArray) (r3 : Int) (r4 : Bool) (w0 w : World) (hG : Glob w0) (hI : IsS86 w0 w g s0_0 s0_1 s0_2) (hB : Below w0.heap.size w0 w) (h : plenumref41_in_head.f k s0_0 s0_1 s0_2 = some (r1, r2, r3, r4)) :
  Calls Tryd.prog 40 #[.pointer (some ⟨g, 0, none⟩)] w fun e w' => e = .returned (.int .i64 r1) ∧ IsS86 w0 w' g r2 r3 r4 ∧ Below w0.heap.size w0 w' ∧ KeepBut w w' g none := by
 have HG := Aside0.mk hG
 clear hG
 have HI0 := Aside0.mk hI
 have HK := Aside0.mk (KeepBut.refl w g none)
 have HL := Aside0.mk hB.size
 clear hI
 have HW0 := Aside0.mk hB.size
 have HB := Aside0.mk hB
 clear hB
 have H : ((plenumref02_ReadHead.f k s0_0 s0_1).bind fun bt201 => (if s0_2 = true then (some (0, s0_0, s0_1, true)) else (if bt201.2.2 = true then (some (bt201.1, s0_0, bt201.2.1, s0_2)) else (some (0, s0_0, s0_1, true))))) = some (r1, r2, r3, r4) := h
 clear h
 replace H := Option.bind_eq_some_iff.mp H
 obtain ⟨⟨t201, t202, t203⟩, A20, H⟩ := H
 replace H : (if s0_2 = true then (some (0, s0_0, s0_1, true)) else (if t203 = true then (some (t201, s0_0, t202, s0_2)) else (some (0, s0_0, s0_1, true)))) = some (r1, r2, r3, r4) := H
 have A2 := Aside0.mk A20
 clear A20
 by_cases c3 : s0_2 = true
 ·subst c3
  have H1 : (some (0, s0_0, s0_1, true)) = some (r1, r2, r3, r4) := by rw [if_pos rfl] at H; exact H
  clear H
  have H := H1
  clear H1
  simp only [Option.some.injEq, Prod.mk.injEq] at H
  obtain ⟨rfl, rfl, rfl, rfl⟩ := H
  go_enter Tryd.func40, Tryd.ntmps40
  try go_wp2
  have n0_ := Aside0.mk (IsS86.drew HI0.out)
  have n1_ := Aside0.mk (keep_drew HK.out)
  have n2_ := Aside0.mk (below_drew1 HB.out)
  clear HI0
  clear HK
  clear HB
  have HI0 := n0_
  have HK := n1_
  have HB := n2_
  clear n0_ n1_ n2_
  refine start_ (n := 16) (S := fun w' => w'.cell? ⟨g, 0, none⟩ = some (.string s0_0) ∧ w'.cell? ⟨g, 1, none⟩ = some (.int .i64 s0_1) ∧ w'.cell? ⟨g, 2, none⟩ = some (.bool true)) (ds := []) #[Yn, Yn, Yn, Yn, Yn, Yn, Yn, Yn, Yn, Yn, Yn, Yn, Yn, Yn, Yn, Yn] (by kernel_rfl) rfl rfl ⟨(blk_cell (Aside0.mk HI0.out.1).out 0).trans rfl, (blk_cell (Aside0.mk HI0.out.1).out 1).trans rfl, (blk_cell (Aside0.mk HI0.out.1).out 2).trans rfl⟩ (fun hHeld => ?_); refine with_tabW plenumref41_in_head.tab1 plenumref41_in_head.bits1 (fun HT_ HW_ => ?_)
  generalize w.drew = w4 at HI0 HK HB hHeld ⊢
  refine P3 HT_.out 0 7 ?_ (Bz 16 0x1) ?_ ?_ ?_ ?_
  rotate_left
  ·intro w'
   go_simp
   with_reducible rfl
  rotate_left
  ·simp only [Act.put, Z1, Z2, Z3, i64_w, i32_w]
   rfl
  refine P3 HT_.out 1 8 ?_ (Bz 16 0x3) ?_ ?_ ?_ ?_
  rotate_left
  ·intro w'
   go_simp
   with_reducible rfl
  rotate_left
  ·simp only [Act.put, Z1, Z2, Z3, i64_w, i32_w]
   rfl
  refine P3 HT_.out 2 9 ?_ (Bz 16 0x7) ?_ ?_ ?_ ?_
  rotate_left
  ·intro w'
   go_simp
   with_reducible rfl
  rotate_left
  ·simp only [Act.put, Z1, Z2, Z3, i64_w, i32_w]
   rfl
  refine P3 HT_.out 4 11 ?_ (Bz 16 0x17) ?_ ?_ ?_ ?_
  rotate_left
  ·intro w'
   go_simp
   with_reducible rfl
  rotate_left
  ·simp only [Act.put, Z1, Z2, Z3, i64_w, i32_w]
   rfl
  refine P3 HT_.out 5 12 ?_ (Bz 16 0x37) ?_ ?_ ?_ ?_
  rotate_left
  ·intro w'
   go_simp
   with_reducible rfl
  rotate_left
  ·simp only [Act.put, Z1, Z2, Z3, i64_w, i32_w]
   rfl
  refine P3 HT_.out 6 13 ?_ (Bz 16 0x77) ?_ ?_ ?_ ?_
  rotate_left
  ·intro w'
   go_simp
   with_reducible rfl
  rotate_left
  ·simp only [Act.put, Z1, Z2, Z3, i64_w, i32_w]
   rfl
  refine P6 HT_.out HW_.out 3 10 ?_ (Bz 16 0x7f) ?_ hHeld ?_ ?_ ?_
  rotate_left
  ·rintro w' ⟨s0, s1, s2⟩
   go_simp
   with_reducible rfl
  rotate_left
  ·simp only [Act.put, Z1, Z2, Z3, i64_w, i32_w]
   rfl
  refine P6 HT_.out HW_.out 7 14 ?_ (Bz 16 0xff) ?_ hHeld ?_ ?_ ?_
  rotate_left
  ·rintro w' ⟨s0, s1, s2⟩
   go_simp
   with_reducible rfl
  rotate_left
  ·simp only [Act.put, Z1, Z2, Z3, i64_w, i32_w]
   rfl
  refine one_ (i := 8) (N := some 15) #[Y, Y, Y, Y, Y, Y, Y, Y, Y, Yn, Yn, Yn, Yn, Yn, Yn, Yn] rfl rfl (one_of HT_.out (by kernel_rfl)) (by decide) (fun K hK => ?_)
  refine goes_ Tryd.func65 (by kernel_rfl) rfl #[.string s0_0, .int .i64 s0_1] (by rfl) rfl rfl (by (try simp only [List.map_toArray, List.map_cons, List.map_nil]); first | done | rfl | (simp only [List.length_drop, List.length_take]; rfl)) ?_
  with_reducible refine (plenumref02_ReadHead.calls k s0_0 s0_1 t201 t202 t203 _ ?side99  A2.out).mono ?_
  (case side99 => first | exact HG.out | exact Glob.below HG.out (by repeat (first | (with_reducible first | exact HB.out | apply below_alloc | apply pw_below_drewN | apply below_drew1 | refine below_set ?_ (IsS86.ge HI0.out)) | exact HB.out)))
  rintro e w5 ⟨rfl, hb⟩
  refine ⟨_, rfl, ?_⟩
  have n0_ := Aside0.mk (IsS86.below (by repeat (first | (with_reducible first | exact HI0.out | apply IsS86.alloc | apply IsS86.drewN | apply IsS86.drew | apply IsS86.set_0 | apply IsS86.set_1 | apply IsS86.set_2) | exact HI0.out)) hb)
  have n1_ := Aside0.mk (KeepBut.trans (by repeat (first | (with_reducible first | exact HK.out | apply KeepBut.set_ | apply keep_drewN | apply keep_drew | apply keep_alloc) | exact HK.out)) (KeepBut.of_below hb g none) (.inl rfl))
  have n2_ := Aside0.mk (below_step (by repeat (first | (with_reducible first | exact HB.out | apply below_alloc | apply pw_below_drewN | apply below_drew1 | refine below_set ?_ (IsS86.ge HI0.out)) | exact HB.out)) hb)
  clear HI0
  clear HK
  clear HB
  have HI0 := n0_
  have HK := n1_
  have HB := n2_
  clear n0_ n1_ n2_
  (try clear hb)
  (try clear hb2)
  (try clear hk)
  (try clear hi)
  refine hK.out _ _ ⟨(blk_cell (Aside0.mk HI0.out.1).out 0).trans rfl, (blk_cell (Aside0.mk HI0.out.1).out 1).trans rfl, (blk_cell (Aside0.mk HI0.out.1).out 2).trans rfl⟩ (fun hHeld => ?_)
  clear hK K
  refine norm_ (a' := ?_) ?_ ?_
  rotate_left
  ·show Act.put _ (some 15) _ = _
   simp only [Act.put, Z1, Z2, Z3, i64_w, i32_w]
   rfl
  refine P3 HT_.out 9 6 ?_ (Bz 16 0x3ff) ?_ ?_ ?_ ?_
  rotate_left
  ·intro w'
   go_simp
   with_reducible rfl
  rotate_left
  ·simp only [Act.put, Z1, Z2, Z3, i64_w, i32_w]
   rfl
  refine P3 HT_.out 10 16 ?_ (Bz 16 0x7ff) ?_ ?_ ?_ ?_
  rotate_left
  ·intro w'
   go_simp
   with_reducible rfl
  rotate_left
  ·simp only [Act.put, Z1, Z2, Z3, i64_w, i32_w]
   rfl
  refine P3 HT_.out 11 17 ?_ (Bz 16 0xfff) ?_ ?_ ?_ ?_
  rotate_left
  ·intro w'
   go_simp
   with_reducible rfl
  rotate_left
  ·simp only [Act.put, Z1, Z2, Z3, i64_w, i32_w]
   rfl
  refine P3 HT_.out 12 18 ?_ (Bz 16 0x1fff) ?_ ?_ ?_ ?_
  rotate_left
  ·intro w'
   go_simp
   with_reducible rfl
  rotate_left
  ·simp only [Act.put, Z1, Z2, Z3, i64_w, i32_w]
   rfl
  refine P3 HT_.out 13 3 ?_ (Bz 16 0x3fff) ?_ ?_ ?_ ?_
  rotate_left
  ·intro w'
   go_simp
   with_reducible rfl
  rotate_left
  ·simp only [Act.put, Z1, Z2, Z3, i64_w, i32_w]
   rfl
  refine P3 HT_.out 14 4 ?_ (Bz 16 0x7fff) ?_ ?_ ?_ ?_
  rotate_left
  ·intro w'
   go_simp
   with_reducible rfl
  rotate_left
  ·simp only [Act.put, Z1, Z2, Z3, i64_w, i32_w]
   rfl
  refine P3 HT_.out 15 5 ?_ (Bz 16 0xffff) ?_ ?_ ?_ ?_
  rotate_left
  ·intro w'
   go_simp
   with_reducible rfl
  rotate_left
  ·simp only [Act.put, Z1, Z2, Z3, i64_w, i32_w]
   rfl
  refine done_ (done_of HT_.out (by kernel_rfl)) ?_
  obtain ⟨HGz6, hgz6⟩ := HI0.out
  have hcz6_0 := cellS86_0 HGz6
  have hcz6_1 := cellS86_1 HGz6
  have hcz6_2 := cellS86_2 HGz6
  have hfz6_0 := blk_frozen HGz6 0
  have hfz6_1 := blk_frozen HGz6 1
  have hfz6_2 := blk_frozen HGz6 2
  clear HGz6 hgz6
  try go_wp2
  go_ret
  exact ⟨by first | rfl | (simp [errW_none, errW_some] <;> rfl) | (simp [*, errW_none, errW_some] <;> rfl), by repeat (first | (with_reducible first | exact HI0.out | apply IsS86.alloc | apply IsS86.drewN | apply IsS86.drew | apply IsS86.set_0 | apply IsS86.set_1 | apply IsS86.set_2) | exact HI0.out), by repeat (first | (with_reducible first | exact HB.out | apply below_alloc | apply pw_below_drewN | apply below_drew1 | refine below_set ?_ (IsS86.ge HI0.out)) | exact HB.out), by repeat (first | (with_reducible first | exact HK.out | apply KeepBut.set_ | apply keep_drewN | apply keep_drew | apply keep_alloc) | exact HK.out)⟩
 ·replace c3 := Bool.eq_false_iff.mpr c3
  subst c3
  have H1 : (if t203 = true then (some (t201, s0_0, t202, false)) else (some (0, s0_0, s0_1, true))) = some (r1, r2, r3, r4) := by rw [if_neg (show ¬ (false = true) by decide)] at H; exact H
  clear H
  have H := H1
  clear H1
  by_cases c7 : t203 = true
  ·subst c7
   have H1 : (some (t201, s0_0, t202, false)) = some (r1, r2, r3, r4) := by rw [if_pos rfl] at H; exact H
   clear H
   have H := H1
   clear H1
   simp only [Option.some.injEq, Prod.mk.injEq] at H
   obtain ⟨rfl, rfl, rfl, rfl⟩ := H
   go_enter Tryd.func40, Tryd.ntmps40
   try go_wp2
   have n0_ := Aside0.mk (IsS86.drew HI0.out)
   have n1_ := Aside0.mk (keep_drew HK.out)
   have n2_ := Aside0.mk (below_drew1 HB.out)
   clear HI0
   clear HK
   clear HB
   have HI0 := n0_
   have HK := n1_
   have HB := n2_
   clear n0_ n1_ n2_
   refine start_ (n := 16) (S := fun w' => w'.cell? ⟨g, 0, none⟩ = some (.string s0_0) ∧ w'.cell? ⟨g, 1, none⟩ = some (.int .i64 s0_1) ∧ w'.cell? ⟨g, 2, none⟩ = some (.bool false)) (ds := []) #[Yn, Yn, Yn, Yn, Yn, Yn, Yn, Yn, Yn, Yn, Yn, Yn, Yn, Yn, Yn, Yn] (by kernel_rfl) rfl rfl ⟨(blk_cell (Aside0.mk HI0.out.1).out 0).trans rfl, (blk_cell (Aside0.mk HI0.out.1).out 1).trans rfl, (blk_cell (Aside0.mk HI0.out.1).out 2).trans rfl⟩ (fun hHeld => ?_); refine with_tabW plenumref41_in_head.tab1 plenumref41_in_head.bits1 (fun HT_ HW_ => ?_)
   generalize w.drew = w8 at HI0 HK HB hHeld ⊢
   refine P3 HT_.out 0 7 ?_ (Bz 16 0x1) ?_ ?_ ?_ ?_
   rotate_left
   ·intro w'
    go_simp
    with_reducible rfl
   rotate_left
   ·simp only [Act.put, Z1, Z2, Z3, i64_w, i32_w]
    rfl
   refine P3 HT_.out 1 8 ?_ (Bz 16 0x3) ?_ ?_ ?_ ?_
   rotate_left
   ·intro w'
    go_simp
    with_reducible rfl
   rotate_left
   ·simp only [Act.put, Z1, Z2, Z3, i64_w, i32_w]
    rfl
   refine P3 HT_.out 2 9 ?_ (Bz 16 0x7) ?_ ?_ ?_ ?_
   rotate_left
   ·intro w'
    go_simp
    with_reducible rfl
   rotate_left
   ·simp only [Act.put, Z1, Z2, Z3, i64_w, i32_w]
    rfl
   refine P3 HT_.out 4 11 ?_ (Bz 16 0x17) ?_ ?_ ?_ ?_
   rotate_left
   ·intro w'
    go_simp
    with_reducible rfl
   rotate_left
   ·simp only [Act.put, Z1, Z2, Z3, i64_w, i32_w]
    rfl
   refine P3 HT_.out 5 12 ?_ (Bz 16 0x37) ?_ ?_ ?_ ?_
   rotate_left
   ·intro w'
    go_simp
    with_reducible rfl
   rotate_left
   ·simp only [Act.put, Z1, Z2, Z3, i64_w, i32_w]
    rfl
   refine P3 HT_.out 6 13 ?_ (Bz 16 0x77) ?_ ?_ ?_ ?_
   rotate_left
   ·intro w'
    go_simp
    with_reducible rfl
   rotate_left
   ·simp only [Act.put, Z1, Z2, Z3, i64_w, i32_w]
    rfl
   refine P6 HT_.out HW_.out 3 10 ?_ (Bz 16 0x7f) ?_ hHeld ?_ ?_ ?_
   rotate_left
   ·rintro w' ⟨s0, s1, s2⟩
    go_simp
    with_reducible rfl
   rotate_left
   ·simp only [Act.put, Z1, Z2, Z3, i64_w, i32_w]
    rfl
   refine P6 HT_.out HW_.out 7 14 ?_ (Bz 16 0xff) ?_ hHeld ?_ ?_ ?_
   rotate_left
   ·rintro w' ⟨s0, s1, s2⟩
    go_simp
    with_reducible rfl
   rotate_left
   ·simp only [Act.put, Z1, Z2, Z3, i64_w, i32_w]
    rfl
   refine one_ (i := 8) (N := some 15) #[Y, Y, Y, Y, Y, Y, Y, Y, Y, Yn, Yn, Yn, Yn, Yn, Yn, Yn] rfl rfl (one_of HT_.out (by kernel_rfl)) (by decide) (fun K hK => ?_)
   refine goes_ Tryd.func65 (by kernel_rfl) rfl #[.string s0_0, .int .i64 s0_1] (by rfl) rfl rfl (by (try simp only [List.map_toArray, List.map_cons, List.map_nil]); first | done | rfl | (simp only [List.length_drop, List.length_take]; rfl)) ?_
   with_reducible refine (plenumref02_ReadHead.calls k s0_0 s0_1 t201 t202 true _ ?side99  A2.out).mono ?_
   (case side99 => first | exact HG.out | exact Glob.below HG.out (by repeat (first | (with_reducible first | exact HB.out | apply below_alloc | apply pw_below_drewN | apply below_drew1 | refine below_set ?_ (IsS86.ge HI0.out)) | exact HB.out)))
   rintro e w9 ⟨rfl, hb⟩
   refine ⟨_, rfl, ?_⟩
   have n0_ := Aside0.mk (IsS86.below (by repeat (first | (with_reducible first | exact HI0.out | apply IsS86.alloc | apply IsS86.drewN | apply IsS86.drew | apply IsS86.set_0 | apply IsS86.set_1 | apply IsS86.set_2) | exact HI0.out)) hb)
   have n1_ := Aside0.mk (KeepBut.trans (by repeat (first | (with_reducible first | exact HK.out | apply KeepBut.set_ | apply keep_drewN | apply keep_drew | apply keep_alloc) | exact HK.out)) (KeepBut.of_below hb g none) (.inl rfl))
   have n2_ := Aside0.mk (below_step (by repeat (first | (with_reducible first | exact HB.out | apply below_alloc | apply pw_below_drewN | apply below_drew1 | refine below_set ?_ (IsS86.ge HI0.out)) | exact HB.out)) hb)
   clear HI0
   clear HK
   clear HB
   have HI0 := n0_
   have HK := n1_
   have HB := n2_
   clear n0_ n1_ n2_
   (try clear hb)
   (try clear hb2)
   (try clear hk)
   (try clear hi)
   refine hK.out _ _ ⟨(blk_cell (Aside0.mk HI0.out.1).out 0).trans rfl, (blk_cell (Aside0.mk HI0.out.1).out 1).trans rfl, (blk_cell (Aside0.mk HI0.out.1).out 2).trans rfl⟩ (fun hHeld => ?_)
   clear hK K
   refine norm_ (a' := ?_) ?_ ?_
   rotate_left
   ·show Act.put _ (some 15) _ = _
    simp only [Act.put, Z1, Z2, Z3, i64_w, i32_w]
    rfl
   refine P3 HT_.out 9 6 ?_ (Bz 16 0x3ff) ?_ ?_ ?_ ?_
   rotate_left
   ·intro w'
    go_simp
    with_reducible rfl
   rotate_left
   ·simp only [Act.put, Z1, Z2, Z3, i64_w, i32_w]
    rfl
   refine P3 HT_.out 10 16 ?_ (Bz 16 0x7ff) ?_ ?_ ?_ ?_
   rotate_left
   ·intro w'
    go_simp
    with_reducible rfl
   rotate_left
   ·simp only [Act.put, Z1, Z2, Z3, i64_w, i32_w]
    rfl
   refine P3 HT_.out 11 17 ?_ (Bz 16 0xfff) ?_ ?_ ?_ ?_
   rotate_left
   ·intro w'
    go_simp
    with_reducible rfl
   rotate_left
   ·simp only [Act.put, Z1, Z2, Z3, i64_w, i32_w]
    rfl
   refine P3 HT_.out 12 18 ?_ (Bz 16 0x1fff) ?_ ?_ ?_ ?_
   rotate_left
   ·intro w'
    go_simp
    with_reducible rfl
   rotate_left
   ·simp only [Act.put, Z1, Z2, Z3, i64_w, i32_w]
    rfl
   refine P3 HT_.out 13 3 ?_ (Bz 16 0x3fff) ?_ ?_ ?_ ?_
   rotate_left
   ·intro w'
    go_simp
    with_reducible rfl
   rotate_left
   ·simp only [Act.put, Z1, Z2, Z3, i64_w, i32_w]
    rfl
   refine P3 HT_.out 14 4 ?_ (Bz 16 0x7fff) ?_ ?_ ?_ ?_
   rotate_left
   ·intro w'
    go_simp
    with_reducible rfl
   rotate_left
   ·simp only [Act.put, Z1, Z2, Z3, i64_w, i32_w]
    rfl
   refine P3 HT_.out 15 5 ?_ (Bz 16 0xffff) ?_ ?_ ?_ ?_
   rotate_left
   ·intro w'
    go_simp
    with_reducible rfl
   rotate_left
   ·simp only [Act.put, Z1, Z2, Z3, i64_w, i32_w]
    rfl
   refine done_ (done_of HT_.out (by kernel_rfl)) ?_
   obtain ⟨HGz10, hgz10⟩ := HI0.out
   have hcz10_0 := cellS86_0 HGz10
   have hcz10_1 := cellS86_1 HGz10
   have hcz10_2 := cellS86_2 HGz10
   have hfz10_0 := blk_frozen HGz10 0
   have hfz10_1 := blk_frozen HGz10 1
   have hfz10_2 := blk_frozen HGz10 2
   clear HGz10 hgz10
   try go_wp2
   go_ret
   exact ⟨by first | rfl | (simp [errW_none, errW_some] <;> rfl) | (simp [*, errW_none, errW_some] <;> rfl), by repeat (first | (with_reducible first | exact HI0.out | apply IsS86.alloc | apply IsS86.drewN | apply IsS86.drew | apply IsS86.set_0 | apply IsS86.set_1 | apply IsS86.set_2) | exact HI0.out), by repeat (first | (with_reducible first | exact HB.out | apply below_alloc | apply pw_below_drewN | apply below_drew1 | refine below_set ?_ (IsS86.ge HI0.out)) | exact HB.out), by repeat (first | (with_reducible first | exact HK.out | apply KeepBut.set_ | apply keep_drewN | apply keep_drew | apply keep_alloc) | exact HK.out)⟩
  ·replace c7 := Bool.eq_false_iff.mpr c7
   subst c7
   have H1 : (some (0, s0_0, s0_1, true)) = some (r1, r2, r3, r4) := by rw [if_neg (show ¬ (false = true) by decide)] at H; exact H
   clear H
   have H := H1
   clear H1
   simp only [Option.some.injEq, Prod.mk.injEq] at H
   obtain ⟨rfl, rfl, rfl, rfl⟩ := H
   go_enter Tryd.func40, Tryd.ntmps40
   try go_wp2
   have n0_ := Aside0.mk (IsS86.drew HI0.out)
   have n1_ := Aside0.mk (keep_drew HK.out)
   have n2_ := Aside0.mk (below_drew1 HB.out)
   clear HI0
   clear HK
   clear HB
   have HI0 := n0_
   have HK := n1_
   have HB := n2_
   clear n0_ n1_ n2_
   refine start_ (n := 16) (S := fun w' => w'.cell? ⟨g, 0, none⟩ = some (.string s0_0) ∧ w'.cell? ⟨g, 1, none⟩ = some (.int .i64 s0_1) ∧ w'.cell? ⟨g, 2, none⟩ = some (.bool false)) (ds := []) #[Yn, Yn, Yn, Yn, Yn, Yn, Yn, Yn, Yn, Yn, Yn, Yn, Yn, Yn, Yn, Yn] (by kernel_rfl) rfl rfl ⟨(blk_cell (Aside0.mk HI0.out.1).out 0).trans rfl, (blk_cell (Aside0.mk HI0.out.1).out 1).trans rfl, (blk_cell (Aside0.mk HI0.out.1).out 2).trans rfl⟩ (fun hHeld => ?_); refine with_tabW plenumref41_in_head.tab1 plenumref41_in_head.bits1 (fun HT_ HW_ => ?_)
   generalize w.drew = w11 at HI0 HK HB hHeld ⊢
   refine P3 HT_.out 0 7 ?_ (Bz 16 0x1) ?_ ?_ ?_ ?_
   rotate_left
   ·intro w'
    go_simp
    with_reducible rfl
   rotate_left
   ·simp only [Act.put, Z1, Z2, Z3, i64_w, i32_w]
    rfl
   refine P3 HT_.out 1 8 ?_ (Bz 16 0x3) ?_ ?_ ?_ ?_
   rotate_left
   ·intro w'
    go_simp
    with_reducible rfl
   rotate_left
   ·simp only [Act.put, Z1, Z2, Z3, i64_w, i32_w]
    rfl
   refine P3 HT_.out 2 9 ?_ (Bz 16 0x7) ?_ ?_ ?_ ?_
   rotate_left
   ·intro w'
    go_simp
    with_reducible rfl
   rotate_left
   ·simp only [Act.put, Z1, Z2, Z3, i64_w, i32_w]
    rfl
   refine P3 HT_.out 4 11 ?_ (Bz 16 0x17) ?_ ?_ ?_ ?_
   rotate_left
   ·intro w'
    go_simp
    with_reducible rfl
   rotate_left
   ·simp only [Act.put, Z1, Z2, Z3, i64_w, i32_w]
    rfl
   refine P3 HT_.out 5 12 ?_ (Bz 16 0x37) ?_ ?_ ?_ ?_
   rotate_left
   ·intro w'
    go_simp
    with_reducible rfl
   rotate_left
   ·simp only [Act.put, Z1, Z2, Z3, i64_w, i32_w]
    rfl
   refine P3 HT_.out 6 13 ?_ (Bz 16 0x77) ?_ ?_ ?_ ?_
   rotate_left
   ·intro w'
    go_simp
    with_reducible rfl
   rotate_left
   ·simp only [Act.put, Z1, Z2, Z3, i64_w, i32_w]
    rfl
   refine P6 HT_.out HW_.out 3 10 ?_ (Bz 16 0x7f) ?_ hHeld ?_ ?_ ?_
   rotate_left
   ·rintro w' ⟨s0, s1, s2⟩
    go_simp
    with_reducible rfl
   rotate_left
   ·simp only [Act.put, Z1, Z2, Z3, i64_w, i32_w]
    rfl
   refine P6 HT_.out HW_.out 7 14 ?_ (Bz 16 0xff) ?_ hHeld ?_ ?_ ?_
   rotate_left
   ·rintro w' ⟨s0, s1, s2⟩
    go_simp
    with_reducible rfl
   rotate_left
   ·simp only [Act.put, Z1, Z2, Z3, i64_w, i32_w]
    rfl
   refine one_ (i := 8) (N := some 15) #[Y, Y, Y, Y, Y, Y, Y, Y, Y, Yn, Yn, Yn, Yn, Yn, Yn, Yn] rfl rfl (one_of HT_.out (by kernel_rfl)) (by decide) (fun K hK => ?_)
   refine goes_ Tryd.func65 (by kernel_rfl) rfl #[.string s0_0, .int .i64 s0_1] (by rfl) rfl rfl (by (try simp only [List.map_toArray, List.map_cons, List.map_nil]); first | done | rfl | (simp only [List.length_drop, List.length_take]; rfl)) ?_
   with_reducible refine (plenumref02_ReadHead.calls k s0_0 s0_1 t201 t202 false _ ?side99  A2.out).mono ?_
   (case side99 => first | exact HG.out | exact Glob.below HG.out (by repeat (first | (with_reducible first | exact HB.out | apply below_alloc | apply pw_below_drewN | apply below_drew1 | refine below_set ?_ (IsS86.ge HI0.out)) | exact HB.out)))
   rintro e w12 ⟨rfl, hb⟩
   refine ⟨_, rfl, ?_⟩
   have n0_ := Aside0.mk (IsS86.below (by repeat (first | (with_reducible first | exact HI0.out | apply IsS86.alloc | apply IsS86.drewN | apply IsS86.drew | apply IsS86.set_0 | apply IsS86.set_1 | apply IsS86.set_2) | exact HI0.out)) hb)
   have n1_ := Aside0.mk (KeepBut.trans (by repeat (first | (with_reducible first | exact HK.out | apply KeepBut.set_ | apply keep_drewN | apply keep_drew | apply keep_alloc) | exact HK.out)) (KeepBut.of_below hb g none) (.inl rfl))
   have n2_ := Aside0.mk (below_step (by repeat (first | (with_reducible first | exact HB.out | apply below_alloc | apply pw_below_drewN | apply below_drew1 | refine below_set ?_ (IsS86.ge HI0.out)) | exact HB.out)) hb)
   clear HI0
   clear HK
   clear HB
   have HI0 := n0_
   have HK := n1_
   have HB := n2_
   clear n0_ n1_ n2_
   (try clear hb)
   (try clear hb2)
   (try clear hk)
   (try clear hi)
   refine hK.out _ _ ⟨(blk_cell (Aside0.mk HI0.out.1).out 0).trans rfl, (blk_cell (Aside0.mk HI0.out.1).out 1).trans rfl, (blk_cell (Aside0.mk HI0.out.1).out 2).trans rfl⟩ (fun hHeld => ?_)
   clear hK K
   refine norm_ (a' := ?_) ?_ ?_
   rotate_left
   ·show Act.put _ (some 15) _ = _
    simp only [Act.put, Z1, Z2, Z3, i64_w, i32_w]
    rfl
   refine P3 HT_.out 9 6 ?_ (Bz 16 0x3ff) ?_ ?_ ?_ ?_
   rotate_left
   ·intro w'
    go_simp
    with_reducible rfl
   rotate_left
   ·simp only [Act.put, Z1, Z2, Z3, i64_w, i32_w]
    rfl
   refine P3 HT_.out 10 16 ?_ (Bz 16 0x7ff) ?_ ?_ ?_ ?_
   rotate_left
   ·intro w'
    go_simp
    with_reducible rfl
   rotate_left
   ·simp only [Act.put, Z1, Z2, Z3, i64_w, i32_w]
    rfl
   refine P3 HT_.out 11 17 ?_ (Bz 16 0xfff) ?_ ?_ ?_ ?_
   rotate_left
   ·intro w'
    go_simp
    with_reducible rfl
   rotate_left
   ·simp only [Act.put, Z1, Z2, Z3, i64_w, i32_w]
    rfl
   refine P3 HT_.out 12 18 ?_ (Bz 16 0x1fff) ?_ ?_ ?_ ?_
   rotate_left
   ·intro w'
    go_simp
    with_reducible rfl
   rotate_left
   ·simp only [Act.put, Z1, Z2, Z3, i64_w, i32_w]
    rfl
   refine P3 HT_.out 13 3 ?_ (Bz 16 0x3fff) ?_ ?_ ?_ ?_
   rotate_left
   ·intro w'
    go_simp
    with_reducible rfl
   rotate_left
   ·simp only [Act.put, Z1, Z2, Z3, i64_w, i32_w]
    rfl
   refine P3 HT_.out 14 4 ?_ (Bz 16 0x7fff) ?_ ?_ ?_ ?_
   rotate_left
   ·intro w'
    go_simp
    with_reducible rfl
   rotate_left
   ·simp only [Act.put, Z1, Z2, Z3, i64_w, i32_w]
    rfl
   refine P3 HT_.out 15 5 ?_ (Bz 16 0xffff) ?_ ?_ ?_ ?_
   rotate_left
   ·intro w'
    go_simp
    with_reducible rfl
   rotate_left
   ·simp only [Act.put, Z1, Z2, Z3, i64_w, i32_w]
    rfl
   refine done_ (done_of HT_.out (by kernel_rfl)) ?_
   obtain ⟨HGz13, hgz13⟩ := HI0.out
   have hcz13_0 := cellS86_0 HGz13
   have hcz13_1 := cellS86_1 HGz13
   have hcz13_2 := cellS86_2 HGz13
   have hfz13_0 := blk_frozen HGz13 0
   have hfz13_1 := blk_frozen HGz13 1
   have hfz13_2 := blk_frozen HGz13 2
   clear HGz13 hgz13
   try go_wp2
   go_ret
   exact ⟨by first | rfl | (simp [errW_none, errW_some] <;> rfl) | (simp [*, errW_none, errW_some] <;> rfl), by repeat (first | (with_reducible first | exact HI0.out | apply IsS86.alloc | apply IsS86.drewN | apply IsS86.drew | apply IsS86.set_0 | apply IsS86.set_1 | apply IsS86.set_2) | exact HI0.out), by repeat (first | (with_reducible first | exact HB.out | apply below_alloc | apply pw_below_drewN | apply below_drew1 | refine below_set ?_ (IsS86.ge HI0.out)) | exact HB.out), by repeat (first | (with_reducible first | exact HK.out | apply KeepBut.set_ | apply keep_drewN | apply keep_drew | apply keep_alloc) | exact HK.out)⟩
end Go.Proofs.YtbccjcdmpiolpaaDoor.T
end
section
namespace Go.Proofs.YtbccjcdmpiolpaaDoor.T
open Go.RowKit Go.Proofs.YtbccjcdmpiolpaaDoorW.PrintWords Go.Proofs.YtbccjcdmpiolpaaDoorW.PrintLast Go.Proofs.YtbccjcdmpiolpaaDoorW.PrintMore
attribute [local go_sem] max2_int min2_int max_two min_two max_three min_three max_four min_four
set_option linter.unusedVariables false
set_option linter.unusedSimpArgs false
def plenumref41_in_text.f (k : Nat) (s0_0 : ByteArray) (s0_1 : Int) (s0_2 : Bool) : Option (ByteArray × ByteArray × Int × Bool) := (plenumref02_ReadText.f k s0_0 s0_1).bind fun bt207 => (if s0_2 = true then (some ((⟨#[]⟩ : ByteArray), s0_0, s0_1, true)) else (if bt207.2.2 = true then (some (bt207.1, s0_0, bt207.2.1, s0_2)) else (some ((⟨#[]⟩ : ByteArray), s0_0, s0_1, true))))
def plenumref41_in_text.T1 : Bool × List (List Nat × List Nat) := (true, [([], []), ([0], [0]), ([1], [1]), ([2], [2]), ([], []), ([4], [4]), ([5], [5]), ([6], [6]), ([3, 7], [3, 7]), ([8], [8]), ([9], [9]), ([9], [9]), ([9], [9]), ([10, 8, 0, 1, 2, 3, 4, 5, 6, 7, 8, 9, 10], [10]), ([11, 13, 0, 1, 2, 3, 4, 5, 6, 7, 8, 9, 10, 11, 13], [11]), ([12, 14, 0, 1, 2, 3, 4, 5, 6, 7, 8, 9, 10, 11, 12, 13, 14], [12])])
def plenumref41_in_text.B1 : List Nat := [0, 1, 3, 7, 0, 16, 48, 112, 255, 511, 1023, 1023, 1023, 2047, 12287, 32767]
theorem plenumref41_in_text.tab1 : rtab .any (opsOf Tryd.f41 1) = plenumref41_in_text.T1 := by kernel_rfl
theorem plenumref41_in_text.bits1 : waitsOk plenumref41_in_text.T1.2 plenumref41_in_text.B1 = true := by kernel_rfl
set_option maxHeartbeats 8000000 in
set_option maxRecDepth 100000 in
theorem plenumref41_in_text.calls (k : Nat) (g : Nat) (s0_0 : ByteArray) (s0_1 : Int) (s0_2 : Bool) (r1 : ByteArray) (r2 : ByteArray) (r3 : Int) (r4 : Bool) (w0 w : World) (hG : Glob w0) (hI : IsS86 w0 w g s0_0 s0_1 s0_2) (hB : Below w0.heap.size w0 w) (h : plenumref41_in_text.f k s0_0 s0_1 s0_2 = some (r1, r2, r3, r4)) :
  Calls Tryd.prog 41 #[.pointer (some ⟨g, 0, none⟩)] w fun e w' => e = .returned (.string r1) ∧ IsS86 w0 w' g r2 r3 r4 ∧ Below w0.heap.size w0 w' ∧ KeepBut w w' g none := by
 have HG := Aside0.mk hG
 clear hG
 have HI0 := Aside0.mk hI
 have HK := Aside0.mk (KeepBut.refl w g none)
 have HL := Aside0.mk hB.size
 clear hI
 have HW0 := Aside0.mk hB.size
 have HB := Aside0.mk hB
 clear hB
 have H : ((plenumref02_ReadText.f k s0_0 s0_1).bind fun bt207 => (if s0_2 = true then (some ((⟨#[]⟩ : ByteArray), s0_0, s0_1, true)) else (if bt207.2.2 = true then (some (bt207.1, s0_0, bt207.2.1, s0_2)) else (some ((⟨#[]⟩ : ByteArray), s0_0, s0_1, true))))) = some (r1, r2, r3, r4) := h
 clear h
 replace H := Option.bind_eq_some_iff.mp H
 obtain ⟨⟨t207, t208, t209⟩, A20, H⟩ := H
 replace H : (if s0_2 = true then (some ((⟨#[]⟩ : ByteArray), s0_0, s0_1, true)) else (if t209 = true then (some (t207, s0_0, t208, s0_2)) else (some ((⟨#[]⟩ : ByteArray), s0_0, s0_1, true)))) = some (r1, r2, r3, r4) := H
 have A2 := Aside0.mk A20
 clear A20
 by_cases c3 : s0_2 = true
 ·subst c3
  have H1 : (some ((⟨#[]⟩ : ByteArray), s0_0, s0_1, true)) = some (r1, r2, r3, r4) := by rw [if_pos rfl] at H; exact H
  clear H
  have H := H1
  clear H1
  simp only [Option.some.injEq, Prod.mk.injEq] at H
  obtain ⟨rfl, rfl, rfl, rfl⟩ := H
  go_enter Tryd.func41, Tryd.ntmps41
  try go_wp2
  have n0_ := Aside0.mk (IsS86.drew HI0.out)
  have n1_ := Aside0.mk (keep_drew HK.out)
  have n2_ := Aside0.mk (below_drew1 HB.out)
  clear HI0
  clear HK
  clear HB
  have HI0 := n0_
  have HK := n1_
  have HB := n2_
  clear n0_ n1_ n2_
  refine start_ (n := 16) (S := fun w' => w'.cell? ⟨g, 0, none⟩ = some (.string s0_0) ∧ w'.cell? ⟨g, 1, none⟩ = some (.int .i64 s0_1) ∧ w'.cell? ⟨g, 2, none⟩ = some (.bool true)) (ds := []) #[Yn, Yn, Yn, Yn, Yn, Yn, Yn, Yn, Yn, Yn, Yn, Yn, Yn, Yn, Yn, Yn] (by kernel_rfl) rfl rfl ⟨(blk_cell (Aside0.mk HI0.out.1).out 0).trans rfl, (blk_cell (Aside0.mk HI0.out.1).out 1).trans rfl, (blk_cell (Aside0.mk HI0.out.1).out 2).trans rfl⟩ (fun hHeld => ?_); refine with_tabW plenumref41_in_text.tab1 plenumref41_in_text.bits1 (fun HT_ HW_ => ?_)
  generalize w.drew = w4 at HI0 HK HB hHeld ⊢
  refine P3 HT_.out 0 7 ?_ (Bz 16 0x1) ?_ ?_ ?_ ?_
  rotate_left
  ·intro w'
   go_simp
   with_reducible rfl
  rotate_left
  ·simp only [Act.put, Z1, Z2, Z3, i64_w, i32_w]
   rfl
  refine P3 HT_.out 1 8 ?_ (Bz 16 0x3) ?_ ?_ ?_ ?_
  rotate_left
  ·intro w'
   go_simp
   with_reducible rfl
  rotate_left
  ·simp only [Act.put, Z1, Z2, Z3, i64_w, i32_w]
   rfl
  refine P3 HT_.out 2 9 ?_ (Bz 16 0x7) ?_ ?_ ?_ ?_
  rotate_left
  ·intro w'
   go_simp
   with_reducible rfl
  rotate_left
  ·simp only [Act.put, Z1, Z2, Z3, i64_w, i32_w]
   rfl
  refine P3 HT_.out 4 11 ?_ (Bz 16 0x17) ?_ ?_ ?_ ?_
  rotate_left
  ·intro w'
   go_simp
   with_reducible rfl
  rotate_left
  ·simp only [Act.put, Z1, Z2, Z3, i64_w, i32_w]
   rfl
  refine P3 HT_.out 5 12 ?_ (Bz 16 0x37) ?_ ?_ ?_ ?_
  rotate_left
  ·intro w'
   go_simp
   with_reducible rfl
  rotate_left
  ·simp only [Act.put, Z1, Z2, Z3, i64_w, i32_w]
   rfl
  refine P3 HT_.out 6 13 ?_ (Bz 16 0x77) ?_ ?_ ?_ ?_
  rotate_left
  ·intro w'
   go_simp
   with_reducible rfl
  rotate_left
  ·simp only [Act.put, Z1, Z2, Z3, i64_w, i32_w]
   rfl
  refine P6 HT_.out HW_.out 3 10 ?_ (Bz 16 0x7f) ?_ hHeld ?_ ?_ ?_
  rotate_left
  ·rintro w' ⟨s0, s1, s2⟩
   go_simp
   with_reducible rfl
  rotate_left
  ·simp only [Act.put, Z1, Z2, Z3, i64_w, i32_w]
   rfl
  refine P6 HT_.out HW_.out 7 14 ?_ (Bz 16 0xff) ?_ hHeld ?_ ?_ ?_
  rotate_left
  ·rintro w' ⟨s0, s1, s2⟩
   go_simp
   with_reducible rfl
  rotate_left
  ·simp only [Act.put, Z1, Z2, Z3, i64_w, i32_w]
   rfl
  refine one_ (i := 8) (N := some 15) #[Y, Y, Y, Y, Y, Y, Y, Y, Y, Yn, Yn, Yn, Yn, Yn, Yn, Yn] rfl rfl (one_of HT_.out (by kernel_rfl)) (by decide) (fun K hK => ?_)
  refine goes_ Tryd.func66 (by kernel_rfl) rfl #[.string s0_0, .int .i64 s0_1] (by rfl) rfl rfl (by (try simp only [List.map_toArray, List.map_cons, List.map_nil]); first | done | rfl | (simp only [List.length_drop, List.length_take]; rfl)) ?_
  with_reducible refine (plenumref02_ReadText.calls k s0_0 s0_1 t207 t208 t209 _ ?side99  A2.out).mono ?_
  (case side99 => first | exact HG.out | exact Glob.below HG.out (by repeat (first | (with_reducible first | exact HB.out | apply below_alloc | apply pw_below_drewN | apply below_drew1 | refine below_set ?_ (IsS86.ge HI0.out)) | exact HB.out)))
  rintro e w5 ⟨rfl, hb⟩
  refine ⟨_, rfl, ?_⟩
  have n0_ := Aside0.mk (IsS86.below (by repeat (first | (with_reducible first | exact HI0.out | apply IsS86.alloc | apply IsS86.drewN | apply IsS86.drew | apply IsS86.set_0 | apply IsS86.set_1 | apply IsS86.set_2) | exact HI0.out)) hb)
  have n1_ := Aside0.mk (KeepBut.trans (by repeat (first | (with_reducible first | exact HK.out | apply KeepBut.set_ | apply keep_drewN | apply keep_drew | apply keep_alloc) | exact HK.out)) (KeepBut.of_below hb g none) (.inl rfl))
  have n2_ := Aside0.mk (below_step (by repeat (first | (with_reducible first | exact HB.out | apply below_alloc | apply pw_below_drewN | apply below_drew1 | refine below_set ?_ (IsS86.ge HI0.out)) | exact HB.out)) hb)
  clear HI0
  clear HK
  clear HB
  have HI0 := n0_
  have HK := n1_
  have HB := n2_
  clear n0_ n1_ n2_
  (try clear hb)
  (try clear hb2)
  (try clear hk)
  (try clear hi)
  refine hK.out _ _ ⟨(blk_cell (Aside0.mk HI0.out.1).out 0).trans rfl, (blk_cell (Aside0.mk HI0.out.1).out 1).trans rfl, (blk_cell (Aside0.mk HI0.out.1).out 2).trans rfl⟩ (fun hHeld => ?_)
  clear hK K
  refine norm_ (a' := ?_) ?_ ?_
  rotate_left
  ·show Act.put _ (some 15) _ = _
   simp only [Act.put, Z1, Z2, Z3, i64_w, i32_w]
   rfl
  refine P3 HT_.out 9 6 ?_ (Bz 16 0x3ff) ?_ ?_ ?_ ?_
  rotate_left
  ·intro w'
   go_simp
   with_reducible rfl
  rotate_left
  ·simp only [Act.put, Z1, Z2, Z3, i64_w, i32_w]
   rfl
  refine P3 HT_.out 10 16 ?_ (Bz 16 0x7ff) ?_ ?_ ?_ ?_
  rotate_left
  ·intro w'
   go_simp
   with_reducible rfl
  rotate_left
  ·simp only [Act.put, Z1, Z2, Z3, i64_w, i32_w]
   rfl
  refine P3 HT_.out 11 17 ?_ (Bz 16 0xfff) ?_ ?_ ?_ ?_
  rotate_left
  ·intro w'
   go_simp
   with_reducible rfl
  rotate_left
  ·simp only [Act.put, Z1, Z2, Z3, i64_w, i32_w]
   rfl
  refine P3 HT_.out 12 18 ?_ (Bz 16 0x1fff) ?_ ?_ ?_ ?_
  rotate_left
  ·intro w'
   go_simp
   with_reducible rfl
  rotate_left
  ·simp only [Act.put, Z1, Z2, Z3, i64_w, i32_w]
   rfl
  refine P3 HT_.out 13 3 ?_ (Bz 16 0x3fff) ?_ ?_ ?_ ?_
  rotate_left
  ·intro w'
   go_simp
   with_reducible rfl
  rotate_left
  ·simp only [Act.put, Z1, Z2, Z3, i64_w, i32_w]
   rfl
  refine P3 HT_.out 14 4 ?_ (Bz 16 0x7fff) ?_ ?_ ?_ ?_
  rotate_left
  ·intro w'
   go_simp
   with_reducible rfl
  rotate_left
  ·simp only [Act.put, Z1, Z2, Z3, i64_w, i32_w]
   rfl
  refine P3 HT_.out 15 5 ?_ (Bz 16 0xffff) ?_ ?_ ?_ ?_
  rotate_left
  ·intro w'
   go_simp
   with_reducible rfl
  rotate_left
  ·simp only [Act.put, Z1, Z2, Z3, i64_w, i32_w]
   rfl
  refine done_ (done_of HT_.out (by kernel_rfl)) ?_
  obtain ⟨HGz6, hgz6⟩ := HI0.out
  have hcz6_0 := cellS86_0 HGz6
  have hcz6_1 := cellS86_1 HGz6
  have hcz6_2 := cellS86_2 HGz6
  have hfz6_0 := blk_frozen HGz6 0
  have hfz6_1 := blk_frozen HGz6 1
  have hfz6_2 := blk_frozen HGz6 2
  clear HGz6 hgz6
  try go_wp2
  go_ret
  exact ⟨by first | rfl | (simp [errW_none, errW_some] <;> rfl) | (simp [*, errW_none, errW_some] <;> rfl), by repeat (first | (with_reducible first | exact HI0.out | apply IsS86.alloc | apply IsS86.drewN | apply IsS86.drew | apply IsS86.set_0 | apply IsS86.set_1 | apply IsS86.set_2) | exact HI0.out), by repeat (first | (with_reducible first | exact HB.out | apply below_alloc | apply pw_below_drewN | apply below_drew1 | refine below_set ?_ (IsS86.ge HI0.out)) | exact HB.out), by repeat (first | (with_reducible first | exact HK.out | apply KeepBut.set_ | apply keep_drewN | apply keep_drew | apply keep_alloc) | exact HK.out)⟩
 ·replace c3 := Bool.eq_false_iff.mpr c3
  subst c3
  have H1 : (if t209 = true then (some (t207, s0_0, t208, false)) else (some ((⟨#[]⟩ : ByteArray), s0_0, s0_1, true))) = some (r1, r2, r3, r4) := by rw [if_neg (show ¬ (false = true) by decide)] at H; exact H
  clear H
  have H := H1
  clear H1
  by_cases c7 : t209 = true
  ·subst c7
   have H1 : (some (t207, s0_0, t208, false)) = some (r1, r2, r3, r4) := by rw [if_pos rfl] at H; exact H
   clear H
   have H := H1
   clear H1
   simp only [Option.some.injEq, Prod.mk.injEq] at H
   obtain ⟨rfl, rfl, rfl, rfl⟩ := H
   go_enter Tryd.func41, Tryd.ntmps41
   try go_wp2
   have n0_ := Aside0.mk (IsS86.drew HI0.out)
   have n1_ := Aside0.mk (keep_drew HK.out)
   have n2_ := Aside0.mk (below_drew1 HB.out)
   clear HI0
   clear HK
   clear HB
   have HI0 := n0_
   have HK := n1_
   have HB := n2_
   clear n0_ n1_ n2_
   refine start_ (n := 16) (S := fun w' => w'.cell? ⟨g, 0, none⟩ = some (.string s0_0) ∧ w'.cell? ⟨g, 1, none⟩ = some (.int .i64 s0_1) ∧ w'.cell? ⟨g, 2, none⟩ = some (.bool false)) (ds := []) #[Yn, Yn, Yn, Yn, Yn, Yn, Yn, Yn, Yn, Yn, Yn, Yn, Yn, Yn, Yn, Yn] (by kernel_rfl) rfl rfl ⟨(blk_cell (Aside0.mk HI0.out.1).out 0).trans rfl, (blk_cell (Aside0.mk HI0.out.1).out 1).trans rfl, (blk_cell (Aside0.mk HI0.out.1).out 2).trans rfl⟩ (fun hHeld => ?_); refine with_tabW plenumref41_in_text.tab1 plenumref41_in_text.bits1 (fun HT_ HW_ => ?_)
   generalize w.drew = w8 at HI0 HK HB hHeld ⊢
   refine P3 HT_.out 0 7 ?_ (Bz 16 0x1) ?_ ?_ ?_ ?_
   rotate_left
   ·intro w'
    go_simp
    with_reducible rfl
   rotate_left
   ·simp only [Act.put, Z1, Z2, Z3, i64_w, i32_w]
    rfl
   refine P3 HT_.out 1 8 ?_ (Bz 16 0x3) ?_ ?_ ?_ ?_
   rotate_left
   ·intro w'
    go_simp
    with_reducible rfl
   rotate_left
   ·simp only [Act.put, Z1, Z2, Z3, i64_w, i32_w]
    rfl
   refine P3 HT_.out 2 9 ?_ (Bz 16 0x7) ?_ ?_ ?_ ?_
   rotate_left
   ·intro w'
    go_simp
    with_reducible rfl
   rotate_left
   ·simp only [Act.put, Z1, Z2, Z3, i64_w, i32_w]
    rfl
   refine P3 HT_.out 4 11 ?_ (Bz 16 0x17) ?_ ?_ ?_ ?_
   rotate_left
   ·intro w'
    go_simp
    with_reducible rfl
   rotate_left
   ·simp only [Act.put, Z1, Z2, Z3, i64_w, i32_w]
    rfl
   refine P3 HT_.out 5 12 ?_ (Bz 16 0x37) ?_ ?_ ?_ ?_
   rotate_left
   ·intro w'
    go_simp
    with_reducible rfl
   rotate_left
   ·simp only [Act.put, Z1, Z2, Z3, i64_w, i32_w]
    rfl
   refine P3 HT_.out 6 13 ?_ (Bz 16 0x77) ?_ ?_ ?_ ?_
   rotate_left
   ·intro w'
    go_simp
    with_reducible rfl
   rotate_left
   ·simp only [Act.put, Z1, Z2, Z3, i64_w, i32_w]
    rfl
   refine P6 HT_.out HW_.out 3 10 ?_ (Bz 16 0x7f) ?_ hHeld ?_ ?_ ?_
   rotate_left
   ·rintro w' ⟨s0, s1, s2⟩
    go_simp
    with_reducible rfl
   rotate_left
   ·simp only [Act.put, Z1, Z2, Z3, i64_w, i32_w]
    rfl
   refine P6 HT_.out HW_.out 7 14 ?_ (Bz 16 0xff) ?_ hHeld ?_ ?_ ?_
   rotate_left
   ·rintro w' ⟨s0, s1, s2⟩
    go_simp
    with_reducible rfl
   rotate_left
   ·simp only [Act.put, Z1, Z2, Z3, i64_w, i32_w]
    rfl
   refine one_ (i := 8) (N := some 15) #[Y, Y, Y, Y, Y, Y, Y, Y, Y, Yn, Yn, Yn, Yn, Yn, Yn, Yn] rfl rfl (one_of HT_.out (by kernel_rfl)) (by decide) (fun K hK => ?_)
   refine goes_ Tryd.func66 (by kernel_rfl) rfl #[.string s0_0, .int .i64 s0_1] (by rfl) rfl rfl (by (try simp only [List.map_toArray, List.map_cons, List.map_nil]); first | done | rfl | (simp only [List.length_drop, List.length_take]; rfl)) ?_
   with_reducible refine (plenumref02_ReadText.calls k s0_0 s0_1 t207 t208 true _ ?side99  A2.out).mono ?_
   (case side99 => first | exact HG.out | exact Glob.below HG.out (by repeat (first | (with_reducible first | exact HB.out | apply below_alloc | apply pw_below_drewN | apply below_drew1 | refine below_set ?_ (IsS86.ge HI0.out)) | exact HB.out)))
   rintro e w9 ⟨rfl, hb⟩
   refine ⟨_, rfl, ?_⟩
   have n0_ := Aside0.mk (IsS86.below (by repeat (first | (with_reducible first | exact HI0.out | apply IsS86.alloc | apply IsS86.drewN | apply IsS86.drew | apply IsS86.set_0 | apply IsS86.set_1 | apply IsS86.set_2) | exact HI0.out)) hb)
   have n1_ := Aside0.mk (KeepBut.trans (by repeat (first | (with_reducible first | exact HK.out | apply KeepBut.set_ | apply keep_drewN | apply keep_drew | apply keep_alloc) | exact HK.out)) (KeepBut.of_below hb g none) (.inl rfl))
   have n2_ := Aside0.mk (below_step (by repeat (first | (with_reducible first | exact HB.out | apply below_alloc | apply pw_below_drewN | apply below_drew1 | refine below_set ?_ (IsS86.ge HI0.out)) | exact HB.out)) hb)
   clear HI0
   clear HK
   clear HB
   have HI0 := n0_
   have HK := n1_
   have HB := n2_
   clear n0_ n1_ n2_
   (try clear hb)
   (try clear hb2)
   (try clear hk)
   (try clear hi)
   refine hK.out _ _ ⟨(blk_cell (Aside0.mk HI0.out.1).out 0).trans rfl, (blk_cell (Aside0.mk HI0.out.1).out 1).trans rfl, (blk_cell (Aside0.mk HI0.out.1).out 2).trans rfl⟩ (fun hHeld => ?_)
   clear hK K
   refine norm_ (a' := ?_) ?_ ?_
   rotate_left
   ·show Act.put _ (some 15) _ = _
    simp only [Act.put, Z1, Z2, Z3, i64_w, i32_w]
    rfl
   refine P3 HT_.out 9 6 ?_ (Bz 16 0x3ff) ?_ ?_ ?_ ?_
   rotate_left
   ·intro w'
    go_simp
    with_reducible rfl
   rotate_left
   ·simp only [Act.put, Z1, Z2, Z3, i64_w, i32_w]
    rfl
   refine P3 HT_.out 10 16 ?_ (Bz 16 0x7ff) ?_ ?_ ?_ ?_
   rotate_left
   ·intro w'
    go_simp
    with_reducible rfl
   rotate_left
   ·simp only [Act.put, Z1, Z2, Z3, i64_w, i32_w]
    rfl
   refine P3 HT_.out 11 17 ?_ (Bz 16 0xfff) ?_ ?_ ?_ ?_
   rotate_left
   ·intro w'
    go_simp
    with_reducible rfl
   rotate_left
   ·simp only [Act.put, Z1, Z2, Z3, i64_w, i32_w]
    rfl
   refine P3 HT_.out 12 18 ?_ (Bz 16 0x1fff) ?_ ?_ ?_ ?_
   rotate_left
   ·intro w'
    go_simp
    with_reducible rfl
   rotate_left
   ·simp only [Act.put, Z1, Z2, Z3, i64_w, i32_w]
    rfl
   refine P3 HT_.out 13 3 ?_ (Bz 16 0x3fff) ?_ ?_ ?_ ?_
   rotate_left
   ·intro w'
    go_simp
    with_reducible rfl
   rotate_left
   ·simp only [Act.put, Z1, Z2, Z3, i64_w, i32_w]
    rfl
   refine P3 HT_.out 14 4 ?_ (Bz 16 0x7fff) ?_ ?_ ?_ ?_
   rotate_left
   ·intro w'
    go_simp
    with_reducible rfl
   rotate_left
   ·simp only [Act.put, Z1, Z2, Z3, i64_w, i32_w]
    rfl
   refine P3 HT_.out 15 5 ?_ (Bz 16 0xffff) ?_ ?_ ?_ ?_
   rotate_left
   ·intro w'
    go_simp
    with_reducible rfl
   rotate_left
   ·simp only [Act.put, Z1, Z2, Z3, i64_w, i32_w]
    rfl
   refine done_ (done_of HT_.out (by kernel_rfl)) ?_
   obtain ⟨HGz10, hgz10⟩ := HI0.out
   have hcz10_0 := cellS86_0 HGz10
   have hcz10_1 := cellS86_1 HGz10
   have hcz10_2 := cellS86_2 HGz10
   have hfz10_0 := blk_frozen HGz10 0
   have hfz10_1 := blk_frozen HGz10 1
   have hfz10_2 := blk_frozen HGz10 2
   clear HGz10 hgz10
   try go_wp2
   go_ret
   exact ⟨by first | rfl | (simp [errW_none, errW_some] <;> rfl) | (simp [*, errW_none, errW_some] <;> rfl), by repeat (first | (with_reducible first | exact HI0.out | apply IsS86.alloc | apply IsS86.drewN | apply IsS86.drew | apply IsS86.set_0 | apply IsS86.set_1 | apply IsS86.set_2) | exact HI0.out), by repeat (first | (with_reducible first | exact HB.out | apply below_alloc | apply pw_below_drewN | apply below_drew1 | refine below_set ?_ (IsS86.ge HI0.out)) | exact HB.out), by repeat (first | (with_reducible first | exact HK.out | apply KeepBut.set_ | apply keep_drewN | apply keep_drew | apply keep_alloc) | exact HK.out)⟩
  ·replace c7 := Bool.eq_false_iff.mpr c7
   subst c7
   have H1 : (some ((⟨#[]⟩ : ByteArray), s0_0, s0_1, true)) = some (r1, r2, r3, r4) := by rw [if_neg (show ¬ (false = true) by decide)] at H; exact H
   clear H
   have H := H1
   clear H1
   simp only [Option.some.injEq, Prod.mk.injEq] at H
   obtain ⟨rfl, rfl, rfl, rfl⟩ := H
   go_enter Tryd.func41, Tryd.ntmps41
   try go_wp2
   have n0_ := Aside0.mk (IsS86.drew HI0.out)
   have n1_ := Aside0.mk (keep_drew HK.out)
   have n2_ := Aside0.mk (below_drew1 HB.out)
   clear HI0
   clear HK
   clear HB
   have HI0 := n0_
   have HK := n1_
   have HB := n2_
   clear n0_ n1_ n2_
   refine start_ (n := 16) (S := fun w' => w'.cell? ⟨g, 0, none⟩ = some (.string s0_0) ∧ w'.cell? ⟨g, 1, none⟩ = some (.int .i64 s0_1) ∧ w'.cell? ⟨g, 2, none⟩ = some (.bool false)) (ds := []) #[Yn, Yn, Yn, Yn, Yn, Yn, Yn, Yn, Yn, Yn, Yn, Yn, Yn, Yn, Yn, Yn] (by kernel_rfl) rfl rfl ⟨(blk_cell (Aside0.mk HI0.out.1).out 0).trans rfl, (blk_cell (Aside0.mk HI0.out.1).out 1).trans rfl, (blk_cell (Aside0.mk HI0.out.1).out 2).trans rfl⟩ (fun hHeld => ?_); refine with_tabW plenumref41_in_text.tab1 plenumref41_in_text.bits1 (fun HT_ HW_ => ?_)
   generalize w.drew = w11 at HI0 HK HB hHeld ⊢
   refine P3 HT_.out 0 7 ?_ (Bz 16 0x1) ?_ ?_ ?_ ?_
   rotate_left
   ·intro w'
    go_simp
    with_reducible rfl
   rotate_left
   ·simp only [Act.put, Z1, Z2, Z3, i64_w, i32_w]
    rfl
   refine P3 HT_.out 1 8 ?_ (Bz 16 0x3) ?_ ?_ ?_ ?_
   rotate_left
   ·intro w'
    go_simp
    with_reducible rfl
   rotate_left
   ·simp only [Act.put, Z1, Z2, Z3, i64_w, i32_w]
    rfl
   refine P3 HT_.out 2 9 ?_ (Bz 16 0x7) ?_ ?_ ?_ ?_
   rotate_left
   ·intro w'
    go_simp
    with_reducible rfl
   rotate_left
   ·simp only [Act.put, Z1, Z2, Z3, i64_w, i32_w]
    rfl
   refine P3 HT_.out 4 11 ?_ (Bz 16 0x17) ?_ ?_ ?_ ?_
   rotate_left
   ·intro w'
    go_simp
    with_reducible rfl
   rotate_left
   ·simp only [Act.put, Z1, Z2, Z3, i64_w, i32_w]
    rfl
   refine P3 HT_.out 5 12 ?_ (Bz 16 0x37) ?_ ?_ ?_ ?_
   rotate_left
   ·intro w'
    go_simp
    with_reducible rfl
   rotate_left
   ·simp only [Act.put, Z1, Z2, Z3, i64_w, i32_w]
    rfl
   refine P3 HT_.out 6 13 ?_ (Bz 16 0x77) ?_ ?_ ?_ ?_
   rotate_left
   ·intro w'
    go_simp
    with_reducible rfl
   rotate_left
   ·simp only [Act.put, Z1, Z2, Z3, i64_w, i32_w]
    rfl
   refine P6 HT_.out HW_.out 3 10 ?_ (Bz 16 0x7f) ?_ hHeld ?_ ?_ ?_
   rotate_left
   ·rintro w' ⟨s0, s1, s2⟩
    go_simp
    with_reducible rfl
   rotate_left
   ·simp only [Act.put, Z1, Z2, Z3, i64_w, i32_w]
    rfl
   refine P6 HT_.out HW_.out 7 14 ?_ (Bz 16 0xff) ?_ hHeld ?_ ?_ ?_
   rotate_left
   ·rintro w' ⟨s0, s1, s2⟩
    go_simp
    with_reducible rfl
   rotate_left
   ·simp only [Act.put, Z1, Z2, Z3, i64_w, i32_w]
    rfl
   refine one_ (i := 8) (N := some 15) #[Y, Y, Y, Y, Y, Y, Y, Y, Y, Yn, Yn, Yn, Yn, Yn, Yn, Yn] rfl rfl (one_of HT_.out (by kernel_rfl)) (by decide) (fun K hK => ?_)
   refine goes_ Tryd.func66 (by kernel_rfl) rfl #[.string s0_0, .int .i64 s0_1] (by rfl) rfl rfl (by (try simp only [List.map_toArray, List.map_cons, List.map_nil]); first | done | rfl | (simp only [List.length_drop, List.length_take]; rfl)) ?_
   with_reducible refine (plenumref02_ReadText.calls k s0_0 s0_1 t207 t208 false _ ?side99  A2.out).mono ?_
   (case side99 => first | exact HG.out | exact Glob.below HG.out (by repeat (first | (with_reducible first | exact HB.out | apply below_alloc | apply pw_below_drewN | apply below_drew1 | refine below_set ?_ (IsS86.ge HI0.out)) | exact HB.out)))
   rintro e w12 ⟨rfl, hb⟩
   refine ⟨_, rfl, ?_⟩
   have n0_ := Aside0.mk (IsS86.below (by repeat (first | (with_reducible first | exact HI0.out | apply IsS86.alloc | apply IsS86.drewN | apply IsS86.drew | apply IsS86.set_0 | apply IsS86.set_1 | apply IsS86.set_2) | exact HI0.out)) hb)
   have n1_ := Aside0.mk (KeepBut.trans (by repeat (first | (with_reducible first | exact HK.out | apply KeepBut.set_ | apply keep_drewN | apply keep_drew | apply keep_alloc) | exact HK.out)) (KeepBut.of_below hb g none) (.inl rfl))
   have n2_ := Aside0.mk (below_step (by repeat (first | (with_reducible first | exact HB.out | apply below_alloc | apply pw_below_drewN | apply below_drew1 | refine below_set ?_ (IsS86.ge HI0.out)) | exact HB.out)) hb)
   clear HI0
   clear HK
   clear HB
   have HI0 := n0_
   have HK := n1_
   have HB := n2_
   clear n0_ n1_ n2_
   (try clear hb)
   (try clear hb2)
   (try clear hk)
   (try clear hi)
   refine hK.out _ _ ⟨(blk_cell (Aside0.mk HI0.out.1).out 0).trans rfl, (blk_cell (Aside0.mk HI0.out.1).out 1).trans rfl, (blk_cell (Aside0.mk HI0.out.1).out 2).trans rfl⟩ (fun hHeld => ?_)
   clear hK K
   refine norm_ (a' := ?_) ?_ ?_
   rotate_left
   ·show Act.put _ (some 15) _ = _
    simp only [Act.put, Z1, Z2, Z3, i64_w, i32_w]
    rfl
   refine P3 HT_.out 9 6 ?_ (Bz 16 0x3ff) ?_ ?_ ?_ ?_
   rotate_left
   ·intro w'
    go_simp
    with_reducible rfl
   rotate_left
   ·simp only [Act.put, Z1, Z2, Z3, i64_w, i32_w]
    rfl
   refine P3 HT_.out 10 16 ?_ (Bz 16 0x7ff) ?_ ?_ ?_ ?_
   rotate_left
   ·intro w'
    go_simp
    with_reducible rfl
   rotate_left
   ·simp only [Act.put, Z1, Z2, Z3, i64_w, i32_w]
    rfl
   refine P3 HT_.out 11 17 ?_ (Bz 16 0xfff) ?_ ?_ ?_ ?_
   rotate_left
   ·intro w'
    go_simp
    with_reducible rfl
   rotate_left
   ·simp only [Act.put, Z1, Z2, Z3, i64_w, i32_w]
    rfl
   refine P3 HT_.out 12 18 ?_ (Bz 16 0x1fff) ?_ ?_ ?_ ?_
   rotate_left
   ·intro w'
    go_simp
    with_reducible rfl
   rotate_left
   ·simp only [Act.put, Z1, Z2, Z3, i64_w, i32_w]
    rfl
   refine P3 HT_.out 13 3 ?_ (Bz 16 0x3fff) ?_ ?_ ?_ ?_
   rotate_left
   ·intro w'
    go_simp
    with_reducible rfl
   rotate_left
   ·simp only [Act.put, Z1, Z2, Z3, i64_w, i32_w]
    rfl
   refine P3 HT_.out 14 4 ?_ (Bz 16 0x7fff) ?_ ?_ ?_ ?_
   rotate_left
   ·intro w'
    go_simp
    with_reducible rfl
   rotate_left
   ·simp only [Act.put, Z1, Z2, Z3, i64_w, i32_w]
    rfl
   refine P3 HT_.out 15 5 ?_ (Bz 16 0xffff) ?_ ?_ ?_ ?_
   rotate_left
   ·intro w'
    go_simp
    with_reducible rfl
   rotate_left
   ·simp only [Act.put, Z1, Z2, Z3, i64_w, i32_w]
    rfl
   refine done_ (done_of HT_.out (by kernel_rfl)) ?_
   obtain ⟨HGz13, hgz13⟩ := HI0.out
   have hcz13_0 := cellS86_0 HGz13
   have hcz13_1 := cellS86_1 HGz13
   have hcz13_2 := cellS86_2 HGz13
   have hfz13_0 := blk_frozen HGz13 0
   have hfz13_1 := blk_frozen HGz13 1
   have hfz13_2 := blk_frozen HGz13 2
   clear HGz13 hgz13
   try go_wp2
   go_ret
   exact ⟨by first | rfl | (simp [errW_none, errW_some] <;> rfl) | (simp [*, errW_none, errW_some] <;> rfl), by repeat (first | (with_reducible first | exact HI0.out | apply IsS86.alloc | apply IsS86.drewN | apply IsS86.drew | apply IsS86.set_0 | apply IsS86.set_1 | apply IsS86.set_2) | exact HI0.out), by repeat (first | (with_reducible first | exact HB.out | apply below_alloc | apply pw_below_drewN | apply below_drew1 | refine below_set ?_ (IsS86.ge HI0.out)) | exact HB.out), by repeat (first | (with_reducible first | exact HK.out | apply KeepBut.set_ | apply keep_drewN | apply keep_drew | apply keep_alloc) | exact HK.out)⟩
end Go.Proofs.YtbccjcdmpiolpaaDoor.T
end
section
namespace Go.Proofs.YtbccjcdmpiolpaaDoor.T
open Go.RowKit Go.Proofs.YtbccjcdmpiolpaaDoorW.PrintWords Go.Proofs.YtbccjcdmpiolpaaDoorW.PrintLast Go.Proofs.YtbccjcdmpiolpaaDoorW.PrintMore
attribute [local go_sem] max2_int min2_int max_two min_two max_three min_three max_four min_four
set_option linter.unusedVariables false
set_option linter.unusedSimpArgs false
def plenumref41_in_number.f (k : Nat) (s0_0 : ByteArray) (s0_1 : Int) (s0_2 : Bool) : Option (Int × ByteArray × Int × Bool) := (plenumref02_ReadUnsigned.f k s0_0 s0_1).bind fun bt213 => (if s0_2 = true then (some (0, s0_0, s0_1, true)) else (if bt213.2.2 = true then (if bt213.1 > 6311433599 then (some (0, s0_0, s0_1, true)) else (some (wrap64 (bt213.1), s0_0, bt213.2.1, s0_2))) else (some (0, s0_0, s0_1, true))))
def plenumref41_in_number.T1 : Bool × List (List Nat × List Nat) := (true, [([], []), ([0], [0]), ([1], [1]), ([2], [2]), ([], []), ([4], [4]), ([5], [5]), ([6], [6]), ([3, 7], [3, 7]), ([8], [8]), ([9], [9]), ([9], [9]), ([9], [9]), ([10, 8, 0, 1, 2, 3, 4, 5, 6, 7, 8, 9, 10], [10]), ([11, 13, 0, 1, 2, 3, 4, 5, 6, 7, 8, 9, 10, 11, 13], [11]), ([12, 14, 0, 1, 2, 3, 4, 5, 6, 7, 8, 9, 10, 11, 12, 13, 14], [12])])
def plenumref41_in_number.B1 : List Nat := [0, 1, 3, 7, 0, 16, 48, 112, 255, 511, 1023, 1023, 1023, 2047, 12287, 32767]
theorem plenumref41_in_number.tab1 : rtab .any (opsOf Tryd.f43 1) = plenumref41_in_number.T1 := by kernel_rfl
theorem plenumref41_in_number.bits1 : waitsOk plenumref41_in_number.T1.2 plenumref41_in_number.B1 = true := by kernel_rfl
set_option maxHeartbeats 8000000 in
set_option maxRecDepth 100000 in
theorem plenumref41_in_number.calls (k : Nat) (g : Nat) (s0_0 : ByteArray) (s0_1 : Int) (s0_2 : Bool) (r1 : Int) (r2 : ByteArray) (r3 : Int) (r4 : Bool) (w0 w : World) (hG : Glob w0) (hI : IsS86 w0 w g s0_0 s0_1 s0_2) (hB : Below w0.heap.size w0 w) (h : plenumref41_in_number.f k s0_0 s0_1 s0_2 = some (r1, r2, r3, r4)) :
  Calls Tryd.prog 43 #[.pointer (some ⟨g, 0, none⟩)] w fun e w' => e = .returned (.int .i64 r1) ∧ IsS86 w0 w' g r2 r3 r4 ∧ Below w0.heap.size w0 w' ∧ KeepBut w w' g none := by
 have HG := Aside0.mk hG
 clear hG
 have HI0 := Aside0.mk hI
 have HK := Aside0.mk (KeepBut.refl w g none)
 have HL := Aside0.mk hB.size
 clear hI
 have HW0 := Aside0.mk hB.size
 have HB := Aside0.mk hB
 clear hB
 have H : ((plenumref02_ReadUnsigned.f k s0_0 s0_1).bind fun bt213 => (if s0_2 = true then (some (0, s0_0, s0_1, true)) else (if bt213.2.2 = true then (if bt213.1 > 6311433599 then (some (0, s0_0, s0_1, true)) else (some (wrap64 (bt213.1), s0_0, bt213.2.1, s0_2))) else (some (0, s0_0, s0_1, true))))) = some (r1, r2, r3, r4) := h
 clear h
 replace H := Option.bind_eq_some_iff.mp H
 obtain ⟨⟨t213, t214, t215⟩, A20, H⟩ := H
 replace H : (if s0_2 = true then (some (0, s0_0, s0_1, true)) else (if t215 = true then (if t213 > 6311433599 then (some (0, s0_0, s0_1, true)) else (some (wrap64 (t213), s0_0, t214, s0_2))) else (some (0, s0_0, s0_1, true)))) = some (r1, r2, r3, r4) := H
 have A2 := Aside0.mk A20
 clear A20
 by_cases c3 : s0_2 = true
 ·subst c3
  have H1 : (some (0, s0_0, s0_1, true)) = some (r1, r2, r3, r4) := by rw [if_pos rfl] at H; exact H
  clear H
  have H := H1
  clear H1
  simp only [Option.some.injEq, Prod.mk.injEq] at H
  obtain ⟨rfl, rfl, rfl, rfl⟩ := H
  go_enter Tryd.func43, Tryd.ntmps43
  try go_wp2
  have n0_ := Aside0.mk (IsS86.drew HI0.out)
  have n1_ := Aside0.mk (keep_drew HK.out)
  have n2_ := Aside0.mk (below_drew1 HB.out)
  clear HI0
  clear HK
  clear HB
  have HI0 := n0_
  have HK := n1_
  have HB := n2_
  clear n0_ n1_ n2_
  refine start_ (n := 16) (S := fun w' => w'.cell? ⟨g, 0, none⟩ = some (.string s0_0) ∧ w'.cell? ⟨g, 1, none⟩ = some (.int .i64 s0_1) ∧ w'.cell? ⟨g, 2, none⟩ = some (.bool true)) (ds := []) #[Yn, Yn, Yn, Yn, Yn, Yn, Yn, Yn, Yn, Yn, Yn, Yn, Yn, Yn, Yn, Yn] (by kernel_rfl) rfl rfl ⟨(blk_cell (Aside0.mk HI0.out.1).out 0).trans rfl, (blk_cell (Aside0.mk HI0.out.1).out 1).trans rfl, (blk_cell (Aside0.mk HI0.out.1).out 2).trans rfl⟩ (fun hHeld => ?_); refine with_tabW plenumref41_in_number.tab1 plenumref41_in_number.bits1 (fun HT_ HW_ => ?_)
  generalize w.drew = w4 at HI0 HK HB hHeld ⊢
  refine P3 HT_.out 0 7 ?_ (Bz 16 0x1) ?_ ?_ ?_ ?_
  rotate_left
  ·intro w'
   go_simp
   with_reducible rfl
  rotate_left
  ·simp only [Act.put, Z1, Z2, Z3, i64_w, i32_w]
   rfl
  refine P3 HT_.out 1 8 ?_ (Bz 16 0x3) ?_ ?_ ?_ ?_
  rotate_left
  ·intro w'
   go_simp
   with_reducible rfl
  rotate_left
  ·simp only [Act.put, Z1, Z2, Z3, i64_w, i32_w]
   rfl
  refine P3 HT_.out 2 9 ?_ (Bz 16 0x7) ?_ ?_ ?_ ?_
  rotate_left
  ·intro w'
   go_simp
   with_reducible rfl
  rotate_left
  ·simp only [Act.put, Z1, Z2, Z3, i64_w, i32_w]
   rfl
  refine P3 HT_.out 4 11 ?_ (Bz 16 0x17) ?_ ?_ ?_ ?_
  rotate_left
  ·intro w'
   go_simp
   with_reducible rfl
  rotate_left
  ·simp only [Act.put, Z1, Z2, Z3, i64_w, i32_w]
   rfl
  refine P3 HT_.out 5 12 ?_ (Bz 16 0x37) ?_ ?_ ?_ ?_
  rotate_left
  ·intro w'
   go_simp
   with_reducible rfl
  rotate_left
  ·simp only [Act.put, Z1, Z2, Z3, i64_w, i32_w]
   rfl
  refine P3 HT_.out 6 13 ?_ (Bz 16 0x77) ?_ ?_ ?_ ?_
  rotate_left
  ·intro w'
   go_simp
   with_reducible rfl
  rotate_left
  ·simp only [Act.put, Z1, Z2, Z3, i64_w, i32_w]
   rfl
  refine P6 HT_.out HW_.out 3 10 ?_ (Bz 16 0x7f) ?_ hHeld ?_ ?_ ?_
  rotate_left
  ·rintro w' ⟨s0, s1, s2⟩
   go_simp
   with_reducible rfl
  rotate_left
  ·simp only [Act.put, Z1, Z2, Z3, i64_w, i32_w]
   rfl
  refine P6 HT_.out HW_.out 7 14 ?_ (Bz 16 0xff) ?_ hHeld ?_ ?_ ?_
  rotate_left
  ·rintro w' ⟨s0, s1, s2⟩
   go_simp
   with_reducible rfl
  rotate_left
  ·simp only [Act.put, Z1, Z2, Z3, i64_w, i32_w]
   rfl
  refine one_ (i := 8) (N := some 15) #[Y, Y, Y, Y, Y, Y, Y, Y, Y, Yn, Yn, Yn, Yn, Yn, Yn, Yn] rfl rfl (one_of HT_.out (by kernel_rfl)) (by decide) (fun K hK => ?_)
  refine goes_ Tryd.func67 (by kernel_rfl) rfl #[.string s0_0, .int .i64 s0_1] (by rfl) rfl rfl (by (try simp only [List.map_toArray, List.map_cons, List.map_nil]); first | done | rfl | (simp only [List.length_drop, List.length_take]; rfl)) ?_
  with_reducible refine (plenumref02_ReadUnsigned.calls k s0_0 s0_1 t213 t214 t215 _ ?side99  A2.out).mono ?_
  (case side99 => first | exact HG.out | exact Glob.below HG.out (by repeat (first | (with_reducible first | exact HB.out | apply below_alloc | apply pw_below_drewN | apply below_drew1 | refine below_set ?_ (IsS86.ge HI0.out)) | exact HB.out)))
  rintro e w5 ⟨rfl, hb⟩
  refine ⟨_, rfl, ?_⟩
  have n0_ := Aside0.mk (IsS86.below (by repeat (first | (with_reducible first | exact HI0.out | apply IsS86.alloc | apply IsS86.drewN | apply IsS86.drew | apply IsS86.set_0 | apply IsS86.set_1 | apply IsS86.set_2) | exact HI0.out)) hb)
  have n1_ := Aside0.mk (KeepBut.trans (by repeat (first | (with_reducible first | exact HK.out | apply KeepBut.set_ | apply keep_drewN | apply keep_drew | apply keep_alloc) | exact HK.out)) (KeepBut.of_below hb g none) (.inl rfl))
  have n2_ := Aside0.mk (below_step (by repeat (first | (with_reducible first | exact HB.out | apply below_alloc | apply pw_below_drewN | apply below_drew1 | refine below_set ?_ (IsS86.ge HI0.out)) | exact HB.out)) hb)
  clear HI0
  clear HK
  clear HB
  have HI0 := n0_
  have HK := n1_
  have HB := n2_
  clear n0_ n1_ n2_
  (try clear hb)
  (try clear hb2)
  (try clear hk)
  (try clear hi)
  refine hK.out _ _ ⟨(blk_cell (Aside0.mk HI0.out.1).out 0).trans rfl, (blk_cell (Aside0.mk HI0.out.1).out 1).trans rfl, (blk_cell (Aside0.mk HI0.out.1).out 2).trans rfl⟩ (fun hHeld => ?_)
  clear hK K
  refine norm_ (a' := ?_) ?_ ?_
  rotate_left
  ·show Act.put _ (some 15) _ = _
   simp only [Act.put, Z1, Z2, Z3, i64_w, i32_w]
   rfl
  refine P3 HT_.out 9 6 ?_ (Bz 16 0x3ff) ?_ ?_ ?_ ?_
  rotate_left
  ·intro w'
   go_simp
   with_reducible rfl
  rotate_left
  ·simp only [Act.put, Z1, Z2, Z3, i64_w, i32_w]
   rfl
  refine P3 HT_.out 10 16 ?_ (Bz 16 0x7ff) ?_ ?_ ?_ ?_
  rotate_left
  ·intro w'
   go_simp
   with_reducible rfl
  rotate_left
  ·simp only [Act.put, Z1, Z2, Z3, i64_w, i32_w]
   rfl
  refine P3 HT_.out 11 17 ?_ (Bz 16 0xfff) ?_ ?_ ?_ ?_
  rotate_left
  ·intro w'
   go_simp
   with_reducible rfl
  rotate_left
  ·simp only [Act.put, Z1, Z2, Z3, i64_w, i32_w]
   rfl
  refine P3 HT_.out 12 18 ?_ (Bz 16 0x1fff) ?_ ?_ ?_ ?_
  rotate_left
  ·intro w'
   go_simp
   with_reducible rfl
  rotate_left
  ·simp only [Act.put, Z1, Z2, Z3, i64_w, i32_w]
   rfl
  refine P3 HT_.out 13 3 ?_ (Bz 16 0x3fff) ?_ ?_ ?_ ?_
  rotate_left
  ·intro w'
   go_simp
   with_reducible rfl
  rotate_left
  ·simp only [Act.put, Z1, Z2, Z3, i64_w, i32_w]
   rfl
  refine P3 HT_.out 14 4 ?_ (Bz 16 0x7fff) ?_ ?_ ?_ ?_
  rotate_left
  ·intro w'
   go_simp
   with_reducible rfl
  rotate_left
  ·simp only [Act.put, Z1, Z2, Z3, i64_w, i32_w]
   rfl
  refine P3 HT_.out 15 5 ?_ (Bz 16 0xffff) ?_ ?_ ?_ ?_
  rotate_left
  ·intro w'
   go_simp
   with_reducible rfl
  rotate_left
  ·simp only [Act.put, Z1, Z2, Z3, i64_w, i32_w]
   rfl
  refine done_ (done_of HT_.out (by kernel_rfl)) ?_
  obtain ⟨HGz6, hgz6⟩ := HI0.out
  have hcz6_0 := cellS86_0 HGz6
  have hcz6_1 := cellS86_1 HGz6
  have hcz6_2 := cellS86_2 HGz6
  have hfz6_0 := blk_frozen HGz6 0
  have hfz6_1 := blk_frozen HGz6 1
  have hfz6_2 := blk_frozen HGz6 2
  clear HGz6 hgz6
  try go_wp2
  go_ret
  exact ⟨by first | rfl | (simp [errW_none, errW_some] <;> rfl) | (simp [*, errW_none, errW_some] <;> rfl), by repeat (first | (with_reducible first | exact HI0.out | apply IsS86.alloc | apply IsS86.drewN | apply IsS86.drew | apply IsS86.set_0 | apply IsS86.set_1 | apply IsS86.set_2) | exact HI0.out), by repeat (first | (with_reducible first | exact HB.out | apply below_alloc | apply pw_below_drewN | apply below_drew1 | refine below_set ?_ (IsS86.ge HI0.out)) | exact HB.out), by repeat (first | (with_reducible first | exact HK.out | apply KeepBut.set_ | apply keep_drewN | apply keep_drew | apply keep_alloc) | exact HK.out)⟩
 ·replace c3 := Bool.eq_false_iff.mpr c3
  subst c3
  have H1 : (if t215 = true then (if t213 > 6311433599 then (some (0, s0_0, s0_1, true)) else (some (wrap64 (t213), s0_0, t214, false))) else (some (0, s0_0, s0_1, true))) = some (r1, r2, r3, r4) := by rw [if_neg (show ¬ (false = true) by decide)] at H; exact H
  clear H
  have H := H1
  clear H1
  by_cases c7 : t215 = true
  ·subst c7
   have H1 : (if t213 > 6311433599 then (some (0, s0_0, s0_1, true)) else (some (wrap64 (t213), s0_0, t214, false))) = some (r1, r2, r3, r4) := by rw [if_pos rfl] at H; exact H
   clear H
   have H := H1
   clear H1
   by_cases c8 : t213 > 6311433599
   ·rw [if_pos c8] at H
    have c8b0 : decide (6311433599 < t213) = true := decide_eq_true c8
    clear c8
    simp only [Option.some.injEq, Prod.mk.injEq] at H
    obtain ⟨rfl, rfl, rfl, rfl⟩ := H
    go_enter Tryd.func43, Tryd.ntmps43
    try go_wp2
    have n0_ := Aside0.mk (IsS86.drew HI0.out)
    have n1_ := Aside0.mk (keep_drew HK.out)
    have n2_ := Aside0.mk (below_drew1 HB.out)
    clear HI0
    clear HK
    clear HB
    have HI0 := n0_
    have HK := n1_
    have HB := n2_
    clear n0_ n1_ n2_
    refine start_ (n := 16) (S := fun w' => w'.cell? ⟨g, 0, none⟩ = some (.string s0_0) ∧ w'.cell? ⟨g, 1, none⟩ = some (.int .i64 s0_1) ∧ w'.cell? ⟨g, 2, none⟩ = some (.bool false)) (ds := []) #[Yn, Yn, Yn, Yn, Yn, Yn, Yn, Yn, Yn, Yn, Yn, Yn, Yn, Yn, Yn, Yn] (by kernel_rfl) rfl rfl ⟨(blk_cell (Aside0.mk HI0.out.1).out 0).trans rfl, (blk_cell (Aside0.mk HI0.out.1).out 1).trans rfl, (blk_cell (Aside0.mk HI0.out.1).out 2).trans rfl⟩ (fun hHeld => ?_); refine with_tabW plenumref41_in_number.tab1 plenumref41_in_number.bits1 (fun HT_ HW_ => ?_)
    generalize w.drew = w9 at HI0 HK HB hHeld ⊢
    refine P3 HT_.out 0 7 ?_ (Bz 16 0x1) ?_ ?_ ?_ ?_
    rotate_left
    ·intro w'
     go_simp
     with_reducible rfl
    rotate_left
    ·simp only [Act.put, Z1, Z2, Z3, i64_w, i32_w]
     rfl
    refine P3 HT_.out 1 8 ?_ (Bz 16 0x3) ?_ ?_ ?_ ?_
    rotate_left
    ·intro w'
     go_simp
     with_reducible rfl
    rotate_left
    ·simp only [Act.put, Z1, Z2, Z3, i64_w, i32_w]
     rfl
    refine P3 HT_.out 2 9 ?_ (Bz 16 0x7) ?_ ?_ ?_ ?_
    rotate_left
    ·intro w'
     go_simp
     with_reducible rfl
    rotate_left
    ·simp only [Act.put, Z1, Z2, Z3, i64_w, i32_w]
     rfl
    refine P3 HT_.out 4 11 ?_ (Bz 16 0x17) ?_ ?_ ?_ ?_
    rotate_left
    ·intro w'
     go_simp
     with_reducible rfl
    rotate_left
    ·simp only [Act.put, Z1, Z2, Z3, i64_w, i32_w]
     rfl
    refine P3 HT_.out 5 12 ?_ (Bz 16 0x37) ?_ ?_ ?_ ?_
    rotate_left
    ·intro w'
     go_simp
     with_reducible rfl
    rotate_left
    ·simp only [Act.put, Z1, Z2, Z3, i64_w, i32_w]
     rfl
    refine P3 HT_.out 6 13 ?_ (Bz 16 0x77) ?_ ?_ ?_ ?_
    rotate_left
    ·intro w'
     go_simp
     with_reducible rfl
    rotate_left
    ·simp only [Act.put, Z1, Z2, Z3, i64_w, i32_w]
     rfl
    refine P6 HT_.out HW_.out 3 10 ?_ (Bz 16 0x7f) ?_ hHeld ?_ ?_ ?_
    rotate_left
    ·rintro w' ⟨s0, s1, s2⟩
     go_simp
     with_reducible rfl
    rotate_left
    ·simp only [Act.put, Z1, Z2, Z3, i64_w, i32_w]
     rfl
    refine P6 HT_.out HW_.out 7 14 ?_ (Bz 16 0xff) ?_ hHeld ?_ ?_ ?_
    rotate_left
    ·rintro w' ⟨s0, s1, s2⟩
     go_simp
     with_reducible rfl
    rotate_left
    ·simp only [Act.put, Z1, Z2, Z3, i64_w, i32_w]
     rfl
    refine one_ (i := 8) (N := some 15) #[Y, Y, Y, Y, Y, Y, Y, Y, Y, Yn, Yn, Yn, Yn, Yn, Yn, Yn] rfl rfl (one_of HT_.out (by kernel_rfl)) (by decide) (fun K hK => ?_)
    refine goes_ Tryd.func67 (by kernel_rfl) rfl #[.string s0_0, .int .i64 s0_1] (by rfl) rfl rfl (by (try simp only [List.map_toArray, List.map_cons, List.map_nil]); first | done | rfl | (simp only [List.length_drop, List.length_take]; rfl)) ?_
    with_reducible refine (plenumref02_ReadUnsigned.calls k s0_0 s0_1 t213 t214 true _ ?side99  A2.out).mono ?_
    (case side99 => first | exact HG.out | exact Glob.below HG.out (by repeat (first | (with_reducible first | exact HB.out | apply below_alloc | apply pw_below_drewN | apply below_drew1 | refine below_set ?_ (IsS86.ge HI0.out)) | exact HB.out)))
    rintro e w10 ⟨rfl, hb⟩
    refine ⟨_, rfl, ?_⟩
    have n0_ := Aside0.mk (IsS86.below (by repeat (first | (with_reducible first | exact HI0.out | apply IsS86.alloc | apply IsS86.drewN | apply IsS86.drew | apply IsS86.set_0 | apply IsS86.set_1 | apply IsS86.set_2) | exact HI0.out)) hb)
    have n1_ := Aside0.mk (KeepBut.trans (by repeat (first | (with_reducible first | exact HK.out | apply KeepBut.set_ | apply keep_drewN | apply keep_drew | apply keep_alloc) | exact HK.out)) (KeepBut.of_below hb g none) (.inl rfl))
    have n2_ := Aside0.mk (below_step (by repeat (first | (with_reducible first | exact HB.out | apply below_alloc | apply pw_below_drewN | apply below_drew1 | refine below_set ?_ (IsS86.ge HI0.out)) | exact HB.out)) hb)
    clear HI0
    clear HK
    clear HB
    have HI0 := n0_
    have HK := n1_
    have HB := n2_
    clear n0_ n1_ n2_
    (try clear hb)
    (try clear hb2)
    (try clear hk)
    (try clear hi)
    refine hK.out _ _ ⟨(blk_cell (Aside0.mk HI0.out.1).out 0).trans rfl, (blk_cell (Aside0.mk HI0.out.1).out 1).trans rfl, (blk_cell (Aside0.mk HI0.out.1).out 2).trans rfl⟩ (fun hHeld => ?_)
    clear hK K
    refine norm_ (a' := ?_) ?_ ?_
    rotate_left
    ·show Act.put _ (some 15) _ = _
     simp only [Act.put, Z1, Z2, Z3, i64_w, i32_w]
     rfl
    refine P3 HT_.out 9 6 ?_ (Bz 16 0x3ff) ?_ ?_ ?_ ?_
    rotate_left
    ·intro w'
     go_simp
     with_reducible rfl
    rotate_left
    ·simp only [Act.put, Z1, Z2, Z3, i64_w, i32_w]
     rfl
    refine P3 HT_.out 10 16 ?_ (Bz 16 0x7ff) ?_ ?_ ?_ ?_
    rotate_left
    ·intro w'
     go_simp
     with_reducible rfl
    rotate_left
    ·simp only [Act.put, Z1, Z2, Z3, i64_w, i32_w]
     rfl
    refine P3 HT_.out 11 17 ?_ (Bz 16 0xfff) ?_ ?_ ?_ ?_
    rotate_left
    ·intro w'
     go_simp
     with_reducible rfl
    rotate_left
    ·simp only [Act.put, Z1, Z2, Z3, i64_w, i32_w]
     rfl
    refine P3 HT_.out 12 18 ?_ (Bz 16 0x1fff) ?_ ?_ ?_ ?_
    rotate_left
    ·intro w'
     go_simp
     with_reducible rfl
    rotate_left
    ·simp only [Act.put, Z1, Z2, Z3, i64_w, i32_w]
     rfl
    refine P3 HT_.out 13 3 ?_ (Bz 16 0x3fff) ?_ ?_ ?_ ?_
    rotate_left
    ·intro w'
     go_simp
     with_reducible rfl
    rotate_left
    ·simp only [Act.put, Z1, Z2, Z3, i64_w, i32_w]
     rfl
    refine P3 HT_.out 14 4 ?_ (Bz 16 0x7fff) ?_ ?_ ?_ ?_
    rotate_left
    ·intro w'
     go_simp
     with_reducible rfl
    rotate_left
    ·simp only [Act.put, Z1, Z2, Z3, i64_w, i32_w]
     rfl
    refine P3 HT_.out 15 5 ?_ (Bz 16 0xffff) ?_ ?_ ?_ ?_
    rotate_left
    ·intro w'
     go_simp
     with_reducible rfl
    rotate_left
    ·simp only [Act.put, Z1, Z2, Z3, i64_w, i32_w]
     rfl
    refine done_ (done_of HT_.out (by kernel_rfl)) ?_
    obtain ⟨HGz11, hgz11⟩ := HI0.out
    have hcz11_0 := cellS86_0 HGz11
    have hcz11_1 := cellS86_1 HGz11
    have hcz11_2 := cellS86_2 HGz11
    have hfz11_0 := blk_frozen HGz11 0
    have hfz11_1 := blk_frozen HGz11 1
    have hfz11_2 := blk_frozen HGz11 2
    clear HGz11 hgz11
    try go_wp2
    go_ret
    exact ⟨by first | rfl | (simp [errW_none, errW_some] <;> rfl) | (simp [*, errW_none, errW_some] <;> rfl), by repeat (first | (with_reducible first | exact HI0.out | apply IsS86.alloc | apply IsS86.drewN | apply IsS86.drew | apply IsS86.set_0 | apply IsS86.set_1 | apply IsS86.set_2) | exact HI0.out), by repeat (first | (with_reducible first | exact HB.out | apply below_alloc | apply pw_below_drewN | apply below_drew1 | refine below_set ?_ (IsS86.ge HI0.out)) | exact HB.out), by repeat (first | (with_reducible first | exact HK.out | apply KeepBut.set_ | apply keep_drewN | apply keep_drew | apply keep_alloc) | exact HK.out)⟩
   ·rw [if_neg c8] at H
    have c8b0 : decide (6311433599 < t213) = false := decide_eq_false c8
    clear c8
    simp only [Option.some.injEq, Prod.mk.injEq] at H
    obtain ⟨rfl, rfl, rfl, rfl⟩ := H
    go_enter Tryd.func43, Tryd.ntmps43
    try go_wp2
    have n0_ := Aside0.mk (IsS86.drew HI0.out)
    have n1_ := Aside0.mk (keep_drew HK.out)
    have n2_ := Aside0.mk (below_drew1 HB.out)
    clear HI0
    clear HK
    clear HB
    have HI0 := n0_
    have HK := n1_
    have HB := n2_
    clear n0_ n1_ n2_
    refine start_ (n := 16) (S := fun w' => w'.cell? ⟨g, 0, none⟩ = some (.string s0_0) ∧ w'.cell? ⟨g, 1, none⟩ = some (.int .i64 s0_1) ∧ w'.cell? ⟨g, 2, none⟩ = some (.bool false)) (ds := []) #[Yn, Yn, Yn, Yn, Yn, Yn, Yn, Yn, Yn, Yn, Yn, Yn, Yn, Yn, Yn, Yn] (by kernel_rfl) rfl rfl ⟨(blk_cell (Aside0.mk HI0.out.1).out 0).trans rfl, (blk_cell (Aside0.mk HI0.out.1).out 1).trans rfl, (blk_cell (Aside0.mk HI0.out.1).out 2).trans rfl⟩ (fun hHeld => ?_); refine with_tabW plenumref41_in_number.tab1 plenumref41_in_number.bits1 (fun HT_ HW_ => ?_)
    generalize w.drew = w12 at HI0 HK HB hHeld ⊢
    refine P3 HT_.out 0 7 ?_ (Bz 16 0x1) ?_ ?_ ?_ ?_
    rotate_left
    ·intro w'
     go_simp
     with_reducible rfl
    rotate_left
    ·simp only [Act.put, Z1, Z2, Z3, i64_w, i32_w]
     rfl
    refine P3 HT_.out 1 8 ?_ (Bz 16 0x3) ?_ ?_ ?_ ?_
    rotate_left
    ·intro w'
     go_simp
     with_reducible rfl
    rotate_left
    ·simp only [Act.put, Z1, Z2, Z3, i64_w, i32_w]
     rfl
    refine P3 HT_.out 2 9 ?_ (Bz 16 0x7) ?_ ?_ ?_ ?_
    rotate_left
    ·intro w'
     go_simp
     with_reducible rfl
    rotate_left
    ·simp only [Act.put, Z1, Z2, Z3, i64_w, i32_w]
     rfl
    refine P3 HT_.out 4 11 ?_ (Bz 16 0x17) ?_ ?_ ?_ ?_
    rotate_left
    ·intro w'
     go_simp
     with_reducible rfl
    rotate_left
    ·simp only [Act.put, Z1, Z2, Z3, i64_w, i32_w]
     rfl
    refine P3 HT_.out 5 12 ?_ (Bz 16 0x37) ?_ ?_ ?_ ?_
    rotate_left
    ·intro w'
     go_simp
     with_reducible rfl
    rotate_left
    ·simp only [Act.put, Z1, Z2, Z3, i64_w, i32_w]
     rfl
    refine P3 HT_.out 6 13 ?_ (Bz 16 0x77) ?_ ?_ ?_ ?_
    rotate_left
    ·intro w'
     go_simp
     with_reducible rfl
    rotate_left
    ·simp only [Act.put, Z1, Z2, Z3, i64_w, i32_w]
     rfl
    refine P6 HT_.out HW_.out 3 10 ?_ (Bz 16 0x7f) ?_ hHeld ?_ ?_ ?_
    rotate_left
    ·rintro w' ⟨s0, s1, s2⟩
     go_simp
     with_reducible rfl
    rotate_left
    ·simp only [Act.put, Z1, Z2, Z3, i64_w, i32_w]
     rfl
    refine P6 HT_.out HW_.out 7 14 ?_ (Bz 16 0xff) ?_ hHeld ?_ ?_ ?_
    rotate_left
    ·rintro w' ⟨s0, s1, s2⟩
     go_simp
     with_reducible rfl
    rotate_left
    ·simp only [Act.put, Z1, Z2, Z3, i64_w, i32_w]
     rfl
    refine one_ (i := 8) (N := some 15) #[Y, Y, Y, Y, Y, Y, Y, Y, Y, Yn, Yn, Yn, Yn, Yn, Yn, Yn] rfl rfl (one_of HT_.out (by kernel_rfl)) (by decide) (fun K hK => ?_)
    refine goes_ Tryd.func67 (by kernel_rfl) rfl #[.string s0_0, .int .i64 s0_1] (by rfl) rfl rfl (by (try simp only [List.map_toArray, List.map_cons, List.map_nil]); first | done | rfl | (simp only [List.length_drop, List.length_take]; rfl)) ?_
    with_reducible refine (plenumref02_ReadUnsigned.calls k s0_0 s0_1 t213 t214 true _ ?side99  A2.out).mono ?_
    (case side99 => first | exact HG.out | exact Glob.below HG.out (by repeat (first | (with_reducible first | exact HB.out | apply below_alloc | apply pw_below_drewN | apply below_drew1 | refine below_set ?_ (IsS86.ge HI0.out)) | exact HB.out)))
    rintro e w13 ⟨rfl, hb⟩
    refine ⟨_, rfl, ?_⟩
    have n0_ := Aside0.mk (IsS86.below (by repeat (first | (with_reducible first | exact HI0.out | apply IsS86.alloc | apply IsS86.drewN | apply IsS86.drew | apply IsS86.set_0 | apply IsS86.set_1 | apply IsS86.set_2) | exact HI0.out)) hb)
    have n1_ := Aside0.mk (KeepBut.trans (by repeat (first | (with_reducible first | exact HK.out | apply KeepBut.set_ | apply keep_drewN | apply keep_drew | apply keep_alloc) | exact HK.out)) (KeepBut.of_below hb g none) (.inl rfl))
    have n2_ := Aside0.mk (below_step (by repeat (first | (with_reducible first | exact HB.out | apply below_alloc | apply pw_below_drewN | apply below_drew1 | refine below_set ?_ (IsS86.ge HI0.out)) | exact HB.out)) hb)
    clear HI0
    clear HK
    clear HB
    have HI0 := n0_
    have HK := n1_
    have HB := n2_
    clear n0_ n1_ n2_
    (try clear hb)
    (try clear hb2)
    (try clear hk)
    (try clear hi)
    refine hK.out _ _ ⟨(blk_cell (Aside0.mk HI0.out.1).out 0).trans rfl, (blk_cell (Aside0.mk HI0.out.1).out 1).trans rfl, (blk_cell (Aside0.mk HI0.out.1).out 2).trans rfl⟩ (fun hHeld => ?_)
    clear hK K
    refine norm_ (a' := ?_) ?_ ?_
    rotate_left
    ·show Act.put _ (some 15) _ = _
     simp only [Act.put, Z1, Z2, Z3, i64_w, i32_w]
     rfl
    refine P3 HT_.out 9 6 ?_ (Bz 16 0x3ff) ?_ ?_ ?_ ?_
    rotate_left
    ·intro w'
     go_simp
     with_reducible rfl
    rotate_left
    ·simp only [Act.put, Z1, Z2, Z3, i64_w, i32_w]
     rfl
    refine P3 HT_.out 10 16 ?_ (Bz 16 0x7ff) ?_ ?_ ?_ ?_
    rotate_left
    ·intro w'
     go_simp
     with_reducible rfl
    rotate_left
    ·simp only [Act.put, Z1, Z2, Z3, i64_w, i32_w]
     rfl
    refine P3 HT_.out 11 17 ?_ (Bz 16 0xfff) ?_ ?_ ?_ ?_
    rotate_left
    ·intro w'
     go_simp
     with_reducible rfl
    rotate_left
    ·simp only [Act.put, Z1, Z2, Z3, i64_w, i32_w]
     rfl
    refine P3 HT_.out 12 18 ?_ (Bz 16 0x1fff) ?_ ?_ ?_ ?_
    rotate_left
    ·intro w'
     go_simp
     with_reducible rfl
    rotate_left
    ·simp only [Act.put, Z1, Z2, Z3, i64_w, i32_w]
     rfl
    refine P3 HT_.out 13 3 ?_ (Bz 16 0x3fff) ?_ ?_ ?_ ?_
    rotate_left
    ·intro w'
     go_simp
     with_reducible rfl
    rotate_left
    ·simp only [Act.put, Z1, Z2, Z3, i64_w, i32_w]
     rfl
    refine P3 HT_.out 14 4 ?_ (Bz 16 0x7fff) ?_ ?_ ?_ ?_
    rotate_left
    ·intro w'
     go_simp
     with_reducible rfl
    rotate_left
    ·simp only [Act.put, Z1, Z2, Z3, i64_w, i32_w]
     rfl
    refine P3 HT_.out 15 5 ?_ (Bz 16 0xffff) ?_ ?_ ?_ ?_
    rotate_left
    ·intro w'
     go_simp
     with_reducible rfl
    rotate_left
    ·simp only [Act.put, Z1, Z2, Z3, i64_w, i32_w]
     rfl
    refine done_ (done_of HT_.out (by kernel_rfl)) ?_
    obtain ⟨HGz14, hgz14⟩ := HI0.out
    have hcz14_0 := cellS86_0 HGz14
    have hcz14_1 := cellS86_1 HGz14
    have hcz14_2 := cellS86_2 HGz14
    have hfz14_0 := blk_frozen HGz14 0
    have hfz14_1 := blk_frozen HGz14 1
    have hfz14_2 := blk_frozen HGz14 2
    clear HGz14 hgz14
    try go_wp2
    go_ret
    exact ⟨by first | rfl | (simp [errW_none, errW_some] <;> rfl) | (simp [*, errW_none, errW_some] <;> rfl), by repeat (first | (with_reducible first | exact HI0.out | apply IsS86.alloc | apply IsS86.drewN | apply IsS86.drew | apply IsS86.set_0 | apply IsS86.set_1 | apply IsS86.set_2) | exact HI0.out), by repeat (first | (with_reducible first | exact HB.out | apply below_alloc | apply pw_below_drewN | apply below_drew1 | refine below_set ?_ (IsS86.ge HI0.out)) | exact HB.out), by repeat (first | (with_reducible first | exact HK.out | apply KeepBut.set_ | apply keep_drewN | apply keep_drew | apply keep_alloc) | exact HK.out)⟩
  ·replace c7 := Bool.eq_false_iff.mpr c7
   subst c7
   have H1 : (some (0, s0_0, s0_1, true)) = some (r1, r2, r3, r4) := by rw [if_neg (show ¬ (false = true) by decide)] at H; exact H
   clear H
   have H := H1
   clear H1
   simp only [Option.some.injEq, Prod.mk.injEq] at H
   obtain ⟨rfl, rfl, rfl, rfl⟩ := H
   go_enter Tryd.func43, Tryd.ntmps43
   try go_wp2
   have n0_ := Aside0.mk (IsS86.drew HI0.out)
   have n1_ := Aside0.mk (keep_drew HK.out)
   have n2_ := Aside0.mk (below_drew1 HB.out)
   clear HI0
   clear HK
   clear HB
   have HI0 := n0_
   have HK := n1_
   have HB := n2_
   clear n0_ n1_ n2_
   refine start_ (n := 16) (S := fun w' => w'.cell? ⟨g, 0, none⟩ = some (.string s0_0) ∧ w'.cell? ⟨g, 1, none⟩ = some (.int .i64 s0_1) ∧ w'.cell? ⟨g, 2, none⟩ = some (.bool false)) (ds := []) #[Yn, Yn, Yn, Yn, Yn, Yn, Yn, Yn, Yn, Yn, Yn, Yn, Yn, Yn, Yn, Yn] (by kernel_rfl) rfl rfl ⟨(blk_cell (Aside0.mk HI0.out.1).out 0).trans rfl, (blk_cell (Aside0.mk HI0.out.1).out 1).trans rfl, (blk_cell (Aside0.mk HI0.out.1).out 2).trans rfl⟩ (fun hHeld => ?_); refine with_tabW plenumref41_in_number.tab1 plenumref41_in_number.bits1 (fun HT_ HW_ => ?_)
   generalize w.drew = w15 at HI0 HK HB hHeld ⊢
   refine P3 HT_.out 0 7 ?_ (Bz 16 0x1) ?_ ?_ ?_ ?_
   rotate_left
   ·intro w'
    go_simp
    with_reducible rfl
   rotate_left
   ·simp only [Act.put, Z1, Z2, Z3, i64_w, i32_w]
    rfl
   refine P3 HT_.out 1 8 ?_ (Bz 16 0x3) ?_ ?_ ?_ ?_
   rotate_left
   ·intro w'
    go_simp
    with_reducible rfl
   rotate_left
   ·simp only [Act.put, Z1, Z2, Z3, i64_w, i32_w]
    rfl
   refine P3 HT_.out 2 9 ?_ (Bz 16 0x7) ?_ ?_ ?_ ?_
   rotate_left
   ·intro w'
    go_simp
    with_reducible rfl
   rotate_left
   ·simp only [Act.put, Z1, Z2, Z3, i64_w, i32_w]
    rfl
   refine P3 HT_.out 4 11 ?_ (Bz 16 0x17) ?_ ?_ ?_ ?_
   rotate_left
   ·intro w'
    go_simp
    with_reducible rfl
   rotate_left
   ·simp only [Act.put, Z1, Z2, Z3, i64_w, i32_w]
    rfl
   refine P3 HT_.out 5 12 ?_ (Bz 16 0x37) ?_ ?_ ?_ ?_
   rotate_left
   ·intro w'
    go_simp
    with_reducible rfl
   rotate_left
   ·simp only [Act.put, Z1, Z2, Z3, i64_w, i32_w]
    rfl
   refine P3 HT_.out 6 13 ?_ (Bz 16 0x77) ?_ ?_ ?_ ?_
   rotate_left
   ·intro w'
    go_simp
    with_reducible rfl
   rotate_left
   ·simp only [Act.put, Z1, Z2, Z3, i64_w, i32_w]
    rfl
   refine P6 HT_.out HW_.out 3 10 ?_ (Bz 16 0x7f) ?_ hHeld ?_ ?_ ?_
   rotate_left
   ·rintro w' ⟨s0, s1, s2⟩
    go_simp
    with_reducible rfl
   rotate_left
   ·simp only [Act.put, Z1, Z2, Z3, i64_w, i32_w]
    rfl
   refine P6 HT_.out HW_.out 7 14 ?_ (Bz 16 0xff) ?_ hHeld ?_ ?_ ?_
   rotate_left
   ·rintro w' ⟨s0, s1, s2⟩
    go_simp
    with_reducible rfl
   rotate_left
   ·simp only [Act.put, Z1, Z2, Z3, i64_w, i32_w]
    rfl
   refine one_ (i := 8) (N := some 15) #[Y, Y, Y, Y, Y, Y, Y, Y, Y, Yn, Yn, Yn, Yn, Yn, Yn, Yn] rfl rfl (one_of HT_.out (by kernel_rfl)) (by decide) (fun K hK => ?_)
   refine goes_ Tryd.func67 (by kernel_rfl) rfl #[.string s0_0, .int .i64 s0_1] (by rfl) rfl rfl (by (try simp only [List.map_toArray, List.map_cons, List.map_nil]); first | done | rfl | (simp only [List.length_drop, List.length_take]; rfl)) ?_
   with_reducible refine (plenumref02_ReadUnsigned.calls k s0_0 s0_1 t213 t214 false _ ?side99  A2.out).mono ?_
   (case side99 => first | exact HG.out | exact Glob.below HG.out (by repeat (first | (with_reducible first | exact HB.out | apply below_alloc | apply pw_below_drewN | apply below_drew1 | refine below_set ?_ (IsS86.ge HI0.out)) | exact HB.out)))
   rintro e w16 ⟨rfl, hb⟩
   refine ⟨_, rfl, ?_⟩
   have n0_ := Aside0.mk (IsS86.below (by repeat (first | (with_reducible first | exact HI0.out | apply IsS86.alloc | apply IsS86.drewN | apply IsS86.drew | apply IsS86.set_0 | apply IsS86.set_1 | apply IsS86.set_2) | exact HI0.out)) hb)
   have n1_ := Aside0.mk (KeepBut.trans (by repeat (first | (with_reducible first | exact HK.out | apply KeepBut.set_ | apply keep_drewN | apply keep_drew | apply keep_alloc) | exact HK.out)) (KeepBut.of_below hb g none) (.inl rfl))
   have n2_ := Aside0.mk (below_step (by repeat (first | (with_reducible first | exact HB.out | apply below_alloc | apply pw_below_drewN | apply below_drew1 | refine below_set ?_ (IsS86.ge HI0.out)) | exact HB.out)) hb)
   clear HI0
   clear HK
   clear HB
   have HI0 := n0_
   have HK := n1_
   have HB := n2_
   clear n0_ n1_ n2_
   (try clear hb)
   (try clear hb2)
   (try clear hk)
   (try clear hi)
   refine hK.out _ _ ⟨(blk_cell (Aside0.mk HI0.out.1).out 0).trans rfl, (blk_cell (Aside0.mk HI0.out.1).out 1).trans rfl, (blk_cell (Aside0.mk HI0.out.1).out 2).trans rfl⟩ (fun hHeld => ?_)
   clear hK K
   refine norm_ (a' := ?_) ?_ ?_
   rotate_left
   ·show Act.put _ (some 15) _ = _
    simp only [Act.put, Z1, Z2, Z3, i64_w, i32_w]
    rfl
   refine P3 HT_.out 9 6 ?_ (Bz 16 0x3ff) ?_ ?_ ?_ ?_
   rotate_left
   ·intro w'
    go_simp
    with_reducible rfl
   rotate_left
   ·simp only [Act.put, Z1, Z2, Z3, i64_w, i32_w]
    rfl
   refine P3 HT_.out 10 16 ?_ (Bz 16 0x7ff) ?_ ?_ ?_ ?_
   rotate_left
   ·intro w'
    go_simp
    with_reducible rfl
   rotate_left
   ·simp only [Act.put, Z1, Z2, Z3, i64_w, i32_w]
    rfl
   refine P3 HT_.out 11 17 ?_ (Bz 16 0xfff) ?_ ?_ ?_ ?_
   rotate_left
   ·intro w'
    go_simp
    with_reducible rfl
   rotate_left
   ·simp only [Act.put, Z1, Z2, Z3, i64_w, i32_w]
    rfl
   refine P3 HT_.out 12 18 ?_ (Bz 16 0x1fff) ?_ ?_ ?_ ?_
   rotate_left
   ·intro w'
    go_simp
    with_reducible rfl
   rotate_left
   ·simp only [Act.put, Z1, Z2, Z3, i64_w, i32_w]
    rfl
   refine P3 HT_.out 13 3 ?_ (Bz 16 0x3fff) ?_ ?_ ?_ ?_
   rotate_left
   ·intro w'
    go_simp
    with_reducible rfl
   rotate_left
   ·simp only [Act.put, Z1, Z2, Z3, i64_w, i32_w]
    rfl
   refine P3 HT_.out 14 4 ?_ (Bz 16 0x7fff) ?_ ?_ ?_ ?_
   rotate_left
   ·intro w'
    go_simp
    with_reducible rfl
   rotate_left
   ·simp only [Act.put, Z1, Z2, Z3, i64_w, i32_w]
    rfl
   refine P3 HT_.out 15 5 ?_ (Bz 16 0xffff) ?_ ?_ ?_ ?_
   rotate_left
   ·intro w'
    go_simp
    with_reducible rfl
   rotate_left
   ·simp only [Act.put, Z1, Z2, Z3, i64_w, i32_w]
    rfl
   refine done_ (done_of HT_.out (by kernel_rfl)) ?_
   obtain ⟨HGz17, hgz17⟩ := HI0.out
   have hcz17_0 := cellS86_0 HGz17
   have hcz17_1 := cellS86_1 HGz17
   have hcz17_2 := cellS86_2 HGz17
   have hfz17_0 := blk_frozen HGz17 0
   have hfz17_1 := blk_frozen HGz17 1
   have hfz17_2 := blk_frozen HGz17 2
   clear HGz17 hgz17
   try go_wp2
   go_ret
   exact ⟨by first | rfl | (simp [errW_none, errW_some] <;> rfl) | (simp [*, errW_none, errW_some] <;> rfl), by repeat (first | (with_reducible first | exact HI0.out | apply IsS86.alloc | apply IsS86.drewN | apply IsS86.drew | apply IsS86.set_0 | apply IsS86.set_1 | apply IsS86.set_2) | exact HI0.out), by repeat (first | (with_reducible first | exact HB.out | apply below_alloc | apply pw_below_drewN | apply below_drew1 | refine below_set ?_ (IsS86.ge HI0.out)) | exact HB.out), by repeat (first | (with_reducible first | exact HK.out | apply KeepBut.set_ | apply keep_drewN | apply keep_drew | apply keep_alloc) | exact HK.out)⟩
end Go.Proofs.YtbccjcdmpiolpaaDoor.T
end
section
namespace Go.Proofs.YtbccjcdmpiolpaaDoor.T
open Go.RowKit Go.Proofs.YtbccjcdmpiolpaaDoorW.PrintWords Go.Proofs.YtbccjcdmpiolpaaDoorW.PrintLast Go.Proofs.YtbccjcdmpiolpaaDoorW.PrintMore
attribute [local go_sem] max2_int min2_int max_two min_two max_three min_three max_four min_four
set_option linter.unusedVariables false
set_option linter.unusedSimpArgs false
def plenumref41_in_signed.f (k : Nat) (s0_0 : ByteArray) (s0_1 : Int) (s0_2 : Bool) : Option (Int × ByteArray × Int × Bool) := (plenumref02_ReadSigned.f k s0_0 s0_1).bind fun bt240 => (if s0_2 = true then (some (0, s0_0, s0_1, true)) else (if bt240.2.2 = true then (some (bt240.1, s0_0, bt240.2.1, s0_2)) else (some (0, s0_0, s0_1, true))))
def plenumref41_in_signed.T1 : Bool × List (List Nat × List Nat) := (true, [([], []), ([0], [0]), ([1], [1]), ([2], [2]), ([], []), ([4], [4]), ([5], [5]), ([6], [6]), ([3, 7], [3, 7]), ([8], [8]), ([9], [9]), ([9], [9]), ([9], [9]), ([10, 8, 0, 1, 2, 3, 4, 5, 6, 7, 8, 9, 10], [10]), ([11, 13, 0, 1, 2, 3, 4, 5, 6, 7, 8, 9, 10, 11, 13], [11]), ([12, 14, 0, 1, 2, 3, 4, 5, 6, 7, 8, 9, 10, 11, 12, 13, 14], [12])])
def plenumref41_in_signed.B1 : List Nat := [0, 1, 3, 7, 0, 16, 48, 112, 255, 511, 1023, 1023, 1023, 2047, 12287, 32767]
theorem plenumref41_in_signed.tab1 : rtab .any (opsOf Tryd.f44 1) = plenumref41_in_signed.T1 := by kernel_rfl
theorem plenumref41_in_signed.bits1 : waitsOk plenumref41_in_signed.T1.2 plenumref41_in_signed.B1 = true := by kernel_rfl
set_option maxHeartbeats 8000000 in
set_option maxRecDepth 100000 in
theorem plenumref41_in_signed.calls (k : Nat) (g : Nat) (s0_0 : ByteArray) (s0_1 : Int) (s0_2 : Bool) (r1 : Int) (r2 : ByteArray) (r3 : Int) (r4 : Bool) (w0 w : World) (hG : Glob w0) (hI : IsS86 w0 w g s0_0 s0_1 s0_2) (hB : Below w0.heap.size w0 w) (h : plenumref41_in_signed.f k s0_0 s0_1 s0_2 = some (r1, r2, r3, r4)) :
  Calls Tryd.prog 44 #[.pointer (some ⟨g, 0, none⟩)] w fun e w' => e = .returned (.int .i64 r1) ∧ IsS86 w0 w' g r2 r3 r4 ∧ Below w0.heap.size w0 w' ∧ KeepBut w w' g none := by
 have HG := Aside0.mk hG
 clear hG
 have HI0 := Aside0.mk hI
 have HK := Aside0.mk (KeepBut.refl w g none)
 have HL := Aside0.mk hB.size
 clear hI
 have HW0 := Aside0.mk hB.size
 have HB := Aside0.mk hB
 clear hB
 have H : ((plenumref02_ReadSigned.f k s0_0 s0_1).bind fun bt240 => (if s0_2 = true then (some (0, s0_0, s0_1, true)) else (if bt240.2.2 = true then (some (bt240.1, s0_0, bt240.2.1, s0_2)) else (some (0, s0_0, s0_1, true))))) = some (r1, r2, r3, r4) := h
 clear h
 replace H := Option.bind_eq_some_iff.mp H
 obtain ⟨⟨t240, t241, t242⟩, A20, H⟩ := H
 replace H : (if s0_2 = true then (some (0, s0_0, s0_1, true)) else (if t242 = true then (some (t240, s0_0, t241, s0_2)) else (some (0, s0_0, s0_1, true)))) = some (r1, r2, r3, r4) := H
 have A2 := Aside0.mk A20
 clear A20
 by_cases c3 : s0_2 = true
 ·subst c3
  have H1 : (some (0, s0_0, s0_1, true)) = some (r1, r2, r3, r4) := by rw [if_pos rfl] at H; exact H
  clear H
  have H := H1
  clear H1
  simp only [Option.some.injEq, Prod.mk.injEq] at H
  obtain ⟨rfl, rfl, rfl, rfl⟩ := H
  go_enter Tryd.func44, Tryd.ntmps44
  try go_wp2
  have n0_ := Aside0.mk (IsS86.drew HI0.out)
  have n1_ := Aside0.mk (keep_drew HK.out)
  have n2_ := Aside0.mk (below_drew1 HB.out)
  clear HI0
  clear HK
  clear HB
  have HI0 := n0_
  have HK := n1_
  have HB := n2_
  clear n0_ n1_ n2_
  refine start_ (n := 16) (S := fun w' => w'.cell? ⟨g, 0, none⟩ = some (.string s0_0) ∧ w'.cell? ⟨g, 1, none⟩ = some (.int .i64 s0_1) ∧ w'.cell? ⟨g, 2, none⟩ = some (.bool true)) (ds := []) #[Yn, Yn, Yn, Yn, Yn, Yn, Yn, Yn, Yn, Yn, Yn, Yn, Yn, Yn, Yn, Yn] (by kernel_rfl) rfl rfl ⟨(blk_cell (Aside0.mk HI0.out.1).out 0).trans rfl, (blk_cell (Aside0.mk HI0.out.1).out 1).trans rfl, (blk_cell (Aside0.mk HI0.out.1).out 2).trans rfl⟩ (fun hHeld => ?_); refine with_tabW plenumref41_in_signed.tab1 plenumref41_in_signed.bits1 (fun HT_ HW_ => ?_)
  generalize w.drew = w4 at HI0 HK HB hHeld ⊢
  refine P3 HT_.out 0 7 ?_ (Bz 16 0x1) ?_ ?_ ?_ ?_
  rotate_left
  ·intro w'
   go_simp
   with_reducible rfl
  rotate_left
  ·simp only [Act.put, Z1, Z2, Z3, i64_w, i32_w]
   rfl
  refine P3 HT_.out 1 8 ?_ (Bz 16 0x3) ?_ ?_ ?_ ?_
  rotate_left
  ·intro w'
   go_simp
   with_reducible rfl
  rotate_left
  ·simp only [Act.put, Z1, Z2, Z3, i64_w, i32_w]
   rfl
  refine P3 HT_.out 2 9 ?_ (Bz 16 0x7) ?_ ?_ ?_ ?_
  rotate_left
  ·intro w'
   go_simp
   with_reducible rfl
  rotate_left
  ·simp only [Act.put, Z1, Z2, Z3, i64_w, i32_w]
   rfl
  refine P3 HT_.out 4 11 ?_ (Bz 16 0x17) ?_ ?_ ?_ ?_
  rotate_left
  ·intro w'
   go_simp
   with_reducible rfl
  rotate_left
  ·simp only [Act.put, Z1, Z2, Z3, i64_w, i32_w]
   rfl
  refine P3 HT_.out 5 12 ?_ (Bz 16 0x37) ?_ ?_ ?_ ?_
  rotate_left
  ·intro w'
   go_simp
   with_reducible rfl
  rotate_left
  ·simp only [Act.put, Z1, Z2, Z3, i64_w, i32_w]
   rfl
  refine P3 HT_.out 6 13 ?_ (Bz 16 0x77) ?_ ?_ ?_ ?_
  rotate_left
  ·intro w'
   go_simp
   with_reducible rfl
  rotate_left
  ·simp only [Act.put, Z1, Z2, Z3, i64_w, i32_w]
   rfl
  refine P6 HT_.out HW_.out 3 10 ?_ (Bz 16 0x7f) ?_ hHeld ?_ ?_ ?_
  rotate_left
  ·rintro w' ⟨s0, s1, s2⟩
   go_simp
   with_reducible rfl
  rotate_left
  ·simp only [Act.put, Z1, Z2, Z3, i64_w, i32_w]
   rfl
  refine P6 HT_.out HW_.out 7 14 ?_ (Bz 16 0xff) ?_ hHeld ?_ ?_ ?_
  rotate_left
  ·rintro w' ⟨s0, s1, s2⟩
   go_simp
   with_reducible rfl
  rotate_left
  ·simp only [Act.put, Z1, Z2, Z3, i64_w, i32_w]
   rfl
  refine one_ (i := 8) (N := some 15) #[Y, Y, Y, Y, Y, Y, Y, Y, Y, Yn, Yn, Yn, Yn, Yn, Yn, Yn] rfl rfl (one_of HT_.out (by kernel_rfl)) (by decide) (fun K hK => ?_)
  refine goes_ Tryd.func68 (by kernel_rfl) rfl #[.string s0_0, .int .i64 s0_1] (by rfl) rfl rfl (by (try simp only [List.map_toArray, List.map_cons, List.map_nil]); first | done | rfl | (simp only [List.length_drop, List.length_take]; rfl)) ?_
  with_reducible refine (plenumref02_ReadSigned.calls k s0_0 s0_1 t240 t241 t242 _ ?side99  A2.out).mono ?_
  (case side99 => first | exact HG.out | exact Glob.below HG.out (by repeat (first | (with_reducible first | exact HB.out | apply below_alloc | apply pw_below_drewN | apply below_drew1 | refine below_set ?_ (IsS86.ge HI0.out)) | exact HB.out)))
  rintro e w5 ⟨rfl, hb⟩
  refine ⟨_, rfl, ?_⟩
  have n0_ := Aside0.mk (IsS86.below (by repeat (first | (with_reducible first | exact HI0.out | apply IsS86.alloc | apply IsS86.drewN | apply IsS86.drew | apply IsS86.set_0 | apply IsS86.set_1 | apply IsS86.set_2) | exact HI0.out)) hb)
  have n1_ := Aside0.mk (KeepBut.trans (by repeat (first | (with_reducible first | exact HK.out | apply KeepBut.set_ | apply keep_drewN | apply keep_drew | apply keep_alloc) | exact HK.out)) (KeepBut.of_below hb g none) (.inl rfl))
  have n2_ := Aside0.mk (below_step (by repeat (first | (with_reducible first | exact HB.out | apply below_alloc | apply pw_below_drewN | apply below_drew1 | refine below_set ?_ (IsS86.ge HI0.out)) | exact HB.out)) hb)
  clear HI0
  clear HK
  clear HB
  have HI0 := n0_
  have HK := n1_
  have HB := n2_
  clear n0_ n1_ n2_
  (try clear hb)
  (try clear hb2)
  (try clear hk)
  (try clear hi)
  refine hK.out _ _ ⟨(blk_cell (Aside0.mk HI0.out.1).out 0).trans rfl, (blk_cell (Aside0.mk HI0.out.1).out 1).trans rfl, (blk_cell (Aside0.mk HI0.out.1).out 2).trans rfl⟩ (fun hHeld => ?_)
  clear hK K
  refine norm_ (a' := ?_) ?_ ?_
  rotate_left
  ·show Act.put _ (some 15) _ = _
   simp only [Act.put, Z1, Z2, Z3, i64_w, i32_w]
   rfl
  refine P3 HT_.out 9 6 ?_ (Bz 16 0x3ff) ?_ ?_ ?_ ?_
  rotate_left
  ·intro w'
   go_simp
   with_reducible rfl
  rotate_left
  ·simp only [Act.put, Z1, Z2, Z3, i64_w, i32_w]
   rfl
  refine P3 HT_.out 10 16 ?_ (Bz 16 0x7ff) ?_ ?_ ?_ ?_
  rotate_left
  ·intro w'
   go_simp
   with_reducible rfl
  rotate_left
  ·simp only [Act.put, Z1, Z2, Z3, i64_w, i32_w]
   rfl
  refine P3 HT_.out 11 17 ?_ (Bz 16 0xfff) ?_ ?_ ?_ ?_
  rotate_left
  ·intro w'
   go_simp
   with_reducible rfl
  rotate_left
  ·simp only [Act.put, Z1, Z2, Z3, i64_w, i32_w]
   rfl
  refine P3 HT_.out 12 18 ?_ (Bz 16 0x1fff) ?_ ?_ ?_ ?_
  rotate_left
  ·intro w'
   go_simp
   with_reducible rfl
  rotate_left
  ·simp only [Act.put, Z1, Z2, Z3, i64_w, i32_w]
   rfl
  refine P3 HT_.out 13 3 ?_ (Bz 16 0x3fff) ?_ ?_ ?_ ?_
  rotate_left
  ·intro w'
   go_simp
   with_reducible rfl
  rotate_left
  ·simp only [Act.put, Z1, Z2, Z3, i64_w, i32_w]
   rfl
  refine P3 HT_.out 14 4 ?_ (Bz 16 0x7fff) ?_ ?_ ?_ ?_
  rotate_left
  ·intro w'
   go_simp
   with_reducible rfl
  rotate_left
  ·simp only [Act.put, Z1, Z2, Z3, i64_w, i32_w]
   rfl
  refine P3 HT_.out 15 5 ?_ (Bz 16 0xffff) ?_ ?_ ?_ ?_
  rotate_left
  ·intro w'
   go_simp
   with_reducible rfl
  rotate_left
  ·simp only [Act.put, Z1, Z2, Z3, i64_w, i32_w]
   rfl
  refine done_ (done_of HT_.out (by kernel_rfl)) ?_
  obtain ⟨HGz6, hgz6⟩ := HI0.out
  have hcz6_0 := cellS86_0 HGz6
  have hcz6_1 := cellS86_1 HGz6
  have hcz6_2 := cellS86_2 HGz6
  have hfz6_0 := blk_frozen HGz6 0
  have hfz6_1 := blk_frozen HGz6 1
  have hfz6_2 := blk_frozen HGz6 2
  clear HGz6 hgz6
  try go_wp2
  go_ret
  exact ⟨by first | rfl | (simp [errW_none, errW_some] <;> rfl) | (simp [*, errW_none, errW_some] <;> rfl), by repeat (first | (with_reducible first | exact HI0.out | apply IsS86.alloc | apply IsS86.drewN | apply IsS86.drew | apply IsS86.set_0 | apply IsS86.set_1 | apply IsS86.set_2) | exact HI0.out), by repeat (first | (with_reducible first | exact HB.out | apply below_alloc | apply pw_below_drewN | apply below_drew1 | refine below_set ?_ (IsS86.ge HI0.out)) | exact HB.out), by repeat (first | (with_reducible first | exact HK.out | apply KeepBut.set_ | apply keep_drewN | apply keep_drew | apply keep_alloc) | exact HK.out)⟩
 ·replace c3 := Bool.eq_false_iff.mpr c3
  subst c3
  have H1 : (if t242 = true then (some (t240, s0_0, t241, false)) else (some (0, s0_0, s0_1, true))) = some (r1, r2, r3, r4) := by rw [if_neg (show ¬ (false = true) by decide)] at H; exact H
  clear H
  have H := H1
  clear H1
  by_cases c7 : t242 = true
  ·subst c7
   have H1 : (some (t240, s0_0, t241, false)) = some (r1, r2, r3, r4) := by rw [if_pos rfl] at H; exact H
   clear H
   have H := H1
   clear H1
   simp only [Option.some.injEq, Prod.mk.injEq] at H
   obtain ⟨rfl, rfl, rfl, rfl⟩ := H
   go_enter Tryd.func44, Tryd.ntmps44
   try go_wp2
   have n0_ := Aside0.mk (IsS86.drew HI0.out)
   have n1_ := Aside0.mk (keep_drew HK.out)
   have n2_ := Aside0.mk (below_drew1 HB.out)
   clear HI0
   clear HK
   clear HB
   have HI0 := n0_
   have HK := n1_
   have HB := n2_
   clear n0_ n1_ n2_
   refine start_ (n := 16) (S := fun w' => w'.cell? ⟨g, 0, none⟩ = some (.string s0_0) ∧ w'.cell? ⟨g, 1, none⟩ = some (.int .i64 s0_1) ∧ w'.cell? ⟨g, 2, none⟩ = some (.bool false)) (ds := []) #[Yn, Yn, Yn, Yn, Yn, Yn, Yn, Yn, Yn, Yn, Yn, Yn, Yn, Yn, Yn, Yn] (by kernel_rfl) rfl rfl ⟨(blk_cell (Aside0.mk HI0.out.1).out 0).trans rfl, (blk_cell (Aside0.mk HI0.out.1).out 1).trans rfl, (blk_cell (Aside0.mk HI0.out.1).out 2).trans rfl⟩ (fun hHeld => ?_); refine with_tabW plenumref41_in_signed.tab1 plenumref41_in_signed.bits1 (fun HT_ HW_ => ?_)
   generalize w.drew = w8 at HI0 HK HB hHeld ⊢
   refine P3 HT_.out 0 7 ?_ (Bz 16 0x1) ?_ ?_ ?_ ?_
   rotate_left
   ·intro w'
    go_simp
    with_reducible rfl
   rotate_left
   ·simp only [Act.put, Z1, Z2, Z3, i64_w, i32_w]
    rfl
   refine P3 HT_.out 1 8 ?_ (Bz 16 0x3) ?_ ?_ ?_ ?_
   rotate_left
   ·intro w'
    go_simp
    with_reducible rfl
   rotate_left
   ·simp only [Act.put, Z1, Z2, Z3, i64_w, i32_w]
    rfl
   refine P3 HT_.out 2 9 ?_ (Bz 16 0x7) ?_ ?_ ?_ ?_
   rotate_left
   ·intro w'
    go_simp
    with_reducible rfl
   rotate_left
   ·simp only [Act.put, Z1, Z2, Z3, i64_w, i32_w]
    rfl
   refine P3 HT_.out 4 11 ?_ (Bz 16 0x17) ?_ ?_ ?_ ?_
   rotate_left
   ·intro w'
    go_simp
    with_reducible rfl
   rotate_left
   ·simp only [Act.put, Z1, Z2, Z3, i64_w, i32_w]
    rfl
   refine P3 HT_.out 5 12 ?_ (Bz 16 0x37) ?_ ?_ ?_ ?_
   rotate_left
   ·intro w'
    go_simp
    with_reducible rfl
   rotate_left
   ·simp only [Act.put, Z1, Z2, Z3, i64_w, i32_w]
    rfl
   refine P3 HT_.out 6 13 ?_ (Bz 16 0x77) ?_ ?_ ?_ ?_
   rotate_left
   ·intro w'
    go_simp
    with_reducible rfl
   rotate_left
   ·simp only [Act.put, Z1, Z2, Z3, i64_w, i32_w]
    rfl
   refine P6 HT_.out HW_.out 3 10 ?_ (Bz 16 0x7f) ?_ hHeld ?_ ?_ ?_
   rotate_left
   ·rintro w' ⟨s0, s1, s2⟩
    go_simp
    with_reducible rfl
   rotate_left
   ·simp only [Act.put, Z1, Z2, Z3, i64_w, i32_w]
    rfl
   refine P6 HT_.out HW_.out 7 14 ?_ (Bz 16 0xff) ?_ hHeld ?_ ?_ ?_
   rotate_left
   ·rintro w' ⟨s0, s1, s2⟩
    go_simp
    with_reducible rfl
   rotate_left
   ·simp only [Act.put, Z1, Z2, Z3, i64_w, i32_w]
    rfl
   refine one_ (i := 8) (N := some 15) #[Y, Y, Y, Y, Y, Y, Y, Y, Y, Yn, Yn, Yn, Yn, Yn, Yn, Yn] rfl rfl (one_of HT_.out (by kernel_rfl)) (by decide) (fun K hK => ?_)
   refine goes_ Tryd.func68 (by kernel_rfl) rfl #[.string s0_0, .int .i64 s0_1] (by rfl) rfl rfl (by (try simp only [List.map_toArray, List.map_cons, List.map_nil]); first | done | rfl | (simp only [List.length_drop, List.length_take]; rfl)) ?_
   with_reducible refine (plenumref02_ReadSigned.calls k s0_0 s0_1 t240 t241 true _ ?side99  A2.out).mono ?_
   (case side99 => first | exact HG.out | exact Glob.below HG.out (by repeat (first | (with_reducible first | exact HB.out | apply below_alloc | apply pw_below_drewN | apply below_drew1 | refine below_set ?_ (IsS86.ge HI0.out)) | exact HB.out)))
   rintro e w9 ⟨rfl, hb⟩
   refine ⟨_, rfl, ?_⟩
   have n0_ := Aside0.mk (IsS86.below (by repeat (first | (with_reducible first | exact HI0.out | apply IsS86.alloc | apply IsS86.drewN | apply IsS86.drew | apply IsS86.set_0 | apply IsS86.set_1 | apply IsS86.set_2) | exact HI0.out)) hb)
   have n1_ := Aside0.mk (KeepBut.trans (by repeat (first | (with_reducible first | exact HK.out | apply KeepBut.set_ | apply keep_drewN | apply keep_drew | apply keep_alloc) | exact HK.out)) (KeepBut.of_below hb g none) (.inl rfl))
   have n2_ := Aside0.mk (below_step (by repeat (first | (with_reducible first | exact HB.out | apply below_alloc | apply pw_below_drewN | apply below_drew1 | refine below_set ?_ (IsS86.ge HI0.out)) | exact HB.out)) hb)
   clear HI0
   clear HK
   clear HB
   have HI0 := n0_
   have HK := n1_
   have HB := n2_
   clear n0_ n1_ n2_
   (try clear hb)
   (try clear hb2)
   (try clear hk)
   (try clear hi)
   refine hK.out _ _ ⟨(blk_cell (Aside0.mk HI0.out.1).out 0).trans rfl, (blk_cell (Aside0.mk HI0.out.1).out 1).trans rfl, (blk_cell (Aside0.mk HI0.out.1).out 2).trans rfl⟩ (fun hHeld => ?_)
   clear hK K
   refine norm_ (a' := ?_) ?_ ?_
   rotate_left
   ·show Act.put _ (some 15) _ = _
    simp only [Act.put, Z1, Z2, Z3, i64_w, i32_w]
    rfl
   refine P3 HT_.out 9 6 ?_ (Bz 16 0x3ff) ?_ ?_ ?_ ?_
   rotate_left
   ·intro w'
    go_simp
    with_reducible rfl
   rotate_left
   ·simp only [Act.put, Z1, Z2, Z3, i64_w, i32_w]
    rfl
   refine P3 HT_.out 10 16 ?_ (Bz 16 0x7ff) ?_ ?_ ?_ ?_
   rotate_left
   ·intro w'
    go_simp
    with_reducible rfl
   rotate_left
   ·simp only [Act.put, Z1, Z2, Z3, i64_w, i32_w]
    rfl
   refine P3 HT_.out 11 17 ?_ (Bz 16 0xfff) ?_ ?_ ?_ ?_
   rotate_left
   ·intro w'
    go_simp
    with_reducible rfl
   rotate_left
   ·simp only [Act.put, Z1, Z2, Z3, i64_w, i32_w]
    rfl
   refine P3 HT_.out 12 18 ?_ (Bz 16 0x1fff) ?_ ?_ ?_ ?_
   rotate_left
   ·intro w'
    go_simp
    with_reducible rfl
   rotate_left
   ·simp only [Act.put, Z1, Z2, Z3, i64_w, i32_w]
    rfl
   refine P3 HT_.out 13 3 ?_ (Bz 16 0x3fff) ?_ ?_ ?_ ?_
   rotate_left
   ·intro w'
    go_simp
    with_reducible rfl
   rotate_left
   ·simp only [Act.put, Z1, Z2, Z3, i64_w, i32_w]
    rfl
   refine P3 HT_.out 14 4 ?_ (Bz 16 0x7fff) ?_ ?_ ?_ ?_
   rotate_left
   ·intro w'
    go_simp
    with_reducible rfl
   rotate_left
   ·simp only [Act.put, Z1, Z2, Z3, i64_w, i32_w]
    rfl
   refine P3 HT_.out 15 5 ?_ (Bz 16 0xffff) ?_ ?_ ?_ ?_
   rotate_left
   ·intro w'
    go_simp
    with_reducible rfl
   rotate_left
   ·simp only [Act.put, Z1, Z2, Z3, i64_w, i32_w]
    rfl
   refine done_ (done_of HT_.out (by kernel_rfl)) ?_
   obtain ⟨HGz10, hgz10⟩ := HI0.out
   have hcz10_0 := cellS86_0 HGz10
   have hcz10_1 := cellS86_1 HGz10
   have hcz10_2 := cellS86_2 HGz10
   have hfz10_0 := blk_frozen HGz10 0
   have hfz10_1 := blk_frozen HGz10 1
   have hfz10_2 := blk_frozen HGz10 2
   clear HGz10 hgz10
   try go_wp2
   go_ret
   exact ⟨by first | rfl | (simp [errW_none, errW_some] <;> rfl) | (simp [*, errW_none, errW_some] <;> rfl), by repeat (first | (with_reducible first | exact HI0.out | apply IsS86.alloc | apply IsS86.drewN | apply IsS86.drew | apply IsS86.set_0 | apply IsS86.set_1 | apply IsS86.set_2) | exact HI0.out), by repeat (first | (with_reducible first | exact HB.out | apply below_alloc | apply pw_below_drewN | apply below_drew1 | refine below_set ?_ (IsS86.ge HI0.out)) | exact HB.out), by repeat (first | (with_reducible first | exact HK.out | apply KeepBut.set_ | apply keep_drewN | apply keep_drew | apply keep_alloc) | exact HK.out)⟩
  ·replace c7 := Bool.eq_false_iff.mpr c7
   subst c7
   have H1 : (some (0, s0_0, s0_1, true)) = some (r1, r2, r3, r4) := by rw [if_neg (show ¬ (false = true) by decide)] at H; exact H
   clear H
   have H := H1
   clear H1
   simp only [Option.some.injEq, Prod.mk.injEq] at H
   obtain ⟨rfl, rfl, rfl, rfl⟩ := H
   go_enter Tryd.func44, Tryd.ntmps44
   try go_wp2
   have n0_ := Aside0.mk (IsS86.drew HI0.out)
   have n1_ := Aside0.mk (keep_drew HK.out)
   have n2_ := Aside0.mk (below_drew1 HB.out)
   clear HI0
   clear HK
   clear HB
   have HI0 := n0_
   have HK := n1_
   have HB := n2_
   clear n0_ n1_ n2_
   refine start_ (n := 16) (S := fun w' => w'.cell? ⟨g, 0, none⟩ = some (.string s0_0) ∧ w'.cell? ⟨g, 1, none⟩ = some (.int .i64 s0_1) ∧ w'.cell? ⟨g, 2, none⟩ = some (.bool false)) (ds := []) #[Yn, Yn, Yn, Yn, Yn, Yn, Yn, Yn, Yn, Yn, Yn, Yn, Yn, Yn, Yn, Yn] (by kernel_rfl) rfl rfl ⟨(blk_cell (Aside0.mk HI0.out.1).out 0).trans rfl, (blk_cell (Aside0.mk HI0.out.1).out 1).trans rfl, (blk_cell (Aside0.mk HI0.out.1).out 2).trans rfl⟩ (fun hHeld => ?_); refine with_tabW plenumref41_in_signed.tab1 plenumref41_in_signed.bits1 (fun HT_ HW_ => ?_)
   generalize w.drew = w11 at HI0 HK HB hHeld ⊢
   refine P3 HT_.out 0 7 ?_ (Bz 16 0x1) ?_ ?_ ?_ ?_
   rotate_left
   ·intro w'
    go_simp
    with_reducible rfl
   rotate_left
   ·simp only [Act.put, Z1, Z2, Z3, i64_w, i32_w]
    rfl
   refine P3 HT_.out 1 8 ?_ (Bz 16 0x3) ?_ ?_ ?_ ?_
   rotate_left
   ·intro w'
    go_simp
    with_reducible rfl
   rotate_left
   ·simp only [Act.put, Z1, Z2, Z3, i64_w, i32_w]
    rfl
   refine P3 HT_.out 2 9 ?_ (Bz 16 0x7) ?_ ?_ ?_ ?_
   rotate_left
   ·intro w'
    go_simp
    with_reducible rfl
   rotate_left
   ·simp only [Act.put, Z1, Z2, Z3, i64_w, i32_w]
    rfl
   refine P3 HT_.out 4 11 ?_ (Bz 16 0x17) ?_ ?_ ?_ ?_
   rotate_left
   ·intro w'
    go_simp
    with_reducible rfl
   rotate_left
   ·simp only [Act.put, Z1, Z2, Z3, i64_w, i32_w]
    rfl
   refine P3 HT_.out 5 12 ?_ (Bz 16 0x37) ?_ ?_ ?_ ?_
   rotate_left
   ·intro w'
    go_simp
    with_reducible rfl
   rotate_left
   ·simp only [Act.put, Z1, Z2, Z3, i64_w, i32_w]
    rfl
   refine P3 HT_.out 6 13 ?_ (Bz 16 0x77) ?_ ?_ ?_ ?_
   rotate_left
   ·intro w'
    go_simp
    with_reducible rfl
   rotate_left
   ·simp only [Act.put, Z1, Z2, Z3, i64_w, i32_w]
    rfl
   refine P6 HT_.out HW_.out 3 10 ?_ (Bz 16 0x7f) ?_ hHeld ?_ ?_ ?_
   rotate_left
   ·rintro w' ⟨s0, s1, s2⟩
    go_simp
    with_reducible rfl
   rotate_left
   ·simp only [Act.put, Z1, Z2, Z3, i64_w, i32_w]
    rfl
   refine P6 HT_.out HW_.out 7 14 ?_ (Bz 16 0xff) ?_ hHeld ?_ ?_ ?_
   rotate_left
   ·rintro w' ⟨s0, s1, s2⟩
    go_simp
    with_reducible rfl
   rotate_left
   ·simp only [Act.put, Z1, Z2, Z3, i64_w, i32_w]
    rfl
   refine one_ (i := 8) (N := some 15) #[Y, Y, Y, Y, Y, Y, Y, Y, Y, Yn, Yn, Yn, Yn, Yn, Yn, Yn] rfl rfl (one_of HT_.out (by kernel_rfl)) (by decide) (fun K hK => ?_)
   refine goes_ Tryd.func68 (by kernel_rfl) rfl #[.string s0_0, .int .i64 s0_1] (by rfl) rfl rfl (by (try simp only [List.map_toArray, List.map_cons, List.map_nil]); first | done | rfl | (simp only [List.length_drop, List.length_take]; rfl)) ?_
   with_reducible refine (plenumref02_ReadSigned.calls k s0_0 s0_1 t240 t241 false _ ?side99  A2.out).mono ?_
   (case side99 => first | exact HG.out | exact Glob.below HG.out (by repeat (first | (with_reducible first | exact HB.out | apply below_alloc | apply pw_below_drewN | apply below_drew1 | refine below_set ?_ (IsS86.ge HI0.out)) | exact HB.out)))
   rintro e w12 ⟨rfl, hb⟩
   refine ⟨_, rfl, ?_⟩
   have n0_ := Aside0.mk (IsS86.below (by repeat (first | (with_reducible first | exact HI0.out | apply IsS86.alloc | apply IsS86.drewN | apply IsS86.drew | apply IsS86.set_0 | apply IsS86.set_1 | apply IsS86.set_2) | exact HI0.out)) hb)
   have n1_ := Aside0.mk (KeepBut.trans (by repeat (first | (with_reducible first | exact HK.out | apply KeepBut.set_ | apply keep_drewN | apply keep_drew | apply keep_alloc) | exact HK.out)) (KeepBut.of_below hb g none) (.inl rfl))
   have n2_ := Aside0.mk (below_step (by repeat (first | (with_reducible first | exact HB.out | apply below_alloc | apply pw_below_drewN | apply below_drew1 | refine below_set ?_ (IsS86.ge HI0.out)) | exact HB.out)) hb)
   clear HI0
   clear HK
   clear HB
   have HI0 := n0_
   have HK := n1_
   have HB := n2_
   clear n0_ n1_ n2_
   (try clear hb)
   (try clear hb2)
   (try clear hk)
   (try clear hi)
   refine hK.out _ _ ⟨(blk_cell (Aside0.mk HI0.out.1).out 0).trans rfl, (blk_cell (Aside0.mk HI0.out.1).out 1).trans rfl, (blk_cell (Aside0.mk HI0.out.1).out 2).trans rfl⟩ (fun hHeld => ?_)
   clear hK K
   refine norm_ (a' := ?_) ?_ ?_
   rotate_left
   ·show Act.put _ (some 15) _ = _
    simp only [Act.put, Z1, Z2, Z3, i64_w, i32_w]
    rfl
   refine P3 HT_.out 9 6 ?_ (Bz 16 0x3ff) ?_ ?_ ?_ ?_
   rotate_left
   ·intro w'
    go_simp
    with_reducible rfl
   rotate_left
   ·simp only [Act.put, Z1, Z2, Z3, i64_w, i32_w]
    rfl
   refine P3 HT_.out 10 16 ?_ (Bz 16 0x7ff) ?_ ?_ ?_ ?_
   rotate_left
   ·intro w'
    go_simp
    with_reducible rfl
   rotate_left
   ·simp only [Act.put, Z1, Z2, Z3, i64_w, i32_w]
    rfl
   refine P3 HT_.out 11 17 ?_ (Bz 16 0xfff) ?_ ?_ ?_ ?_
   rotate_left
   ·intro w'
    go_simp
    with_reducible rfl
   rotate_left
   ·simp only [Act.put, Z1, Z2, Z3, i64_w, i32_w]
    rfl
   refine P3 HT_.out 12 18 ?_ (Bz 16 0x1fff) ?_ ?_ ?_ ?_
   rotate_left
   ·intro w'
    go_simp
    with_reducible rfl
   rotate_left
   ·simp only [Act.put, Z1, Z2, Z3, i64_w, i32_w]
    rfl
   refine P3 HT_.out 13 3 ?_ (Bz 16 0x3fff) ?_ ?_ ?_ ?_
   rotate_left
   ·intro w'
    go_simp
    with_reducible rfl
   rotate_left
   ·simp only [Act.put, Z1, Z2, Z3, i64_w, i32_w]
    rfl
   refine P3 HT_.out 14 4 ?_ (Bz 16 0x7fff) ?_ ?_ ?_ ?_
   rotate_left
   ·intro w'
    go_simp
    with_reducible rfl
   rotate_left
   ·simp only [Act.put, Z1, Z2, Z3, i64_w, i32_w]
    rfl
   refine P3 HT_.out 15 5 ?_ (Bz 16 0xffff) ?_ ?_ ?_ ?_
   rotate_left
   ·intro w'
    go_simp
    with_reducible rfl
   rotate_left
   ·simp only [Act.put, Z1, Z2, Z3, i64_w, i32_w]
    rfl
   refine done_ (done_of HT_.out (by kernel_rfl)) ?_
   obtain ⟨HGz13, hgz13⟩ := HI0.out
   have hcz13_0 := cellS86_0 HGz13
   have hcz13_1 := cellS86_1 HGz13
   have hcz13_2 := cellS86_2 HGz13
   have hfz13_0 := blk_frozen HGz13 0
   have hfz13_1 := blk_frozen HGz13 1
   have hfz13_2 := blk_frozen HGz13 2
   clear HGz13 hgz13
   try go_wp2
   go_ret
   exact ⟨by first | rfl | (simp [errW_none, errW_some] <;> rfl) | (simp [*, errW_none, errW_some] <;> rfl), by repeat (first | (with_reducible first | exact HI0.out | apply IsS86.alloc | apply IsS86.drewN | apply IsS86.drew | apply IsS86.set_0 | apply IsS86.set_1 | apply IsS86.set_2) | exact HI0.out), by repeat (first | (with_reducible first | exact HB.out | apply below_alloc | apply pw_below_drewN | apply below_drew1 | refine below_set ?_ (IsS86.ge HI0.out)) | exact HB.out), by repeat (first | (with_reducible first | exact HK.out | apply KeepBut.set_ | apply keep_drewN | apply keep_drew | apply keep_alloc) | exact HK.out)⟩
end Go.Proofs.YtbccjcdmpiolpaaDoor.T
end
section
namespace Go.Proofs.YtbccjcdmpiolpaaDoor.T
open Go.RowKit Go.Proofs.YtbccjcdmpiolpaaDoor.Pure Go.Proofs.YtbccjcdmpiolpaaDoorW.PrintWords Go.Proofs.YtbccjcdmpiolpaaDoorW.PrintLast Go.Proofs.YtbccjcdmpiolpaaDoorW.PrintMore
set_option linter.unusedVariables false
set_option linter.unusedSimpArgs false
def IS (w0 w : World) (g : Nat) (s : ByteArray) (o : Option Int) : Prop := ∃ p b, IsS86 w0 w g s p b ∧ 0 ≤ p ∧ (∀ q, o = some q → p = q ∧ b = false) ∧ (o = none → b = true)
theorem IS.below {w0 w w1 : World} {g : Nat} {s : ByteArray} {o : Option Int} (h : IS w0 w g s o) (hb : Below w.heap.size w w1) : IS w0 w1 g s o := by
 obtain ⟨p, b, h1, h2⟩ := h
 exact ⟨p, b, h1.below hb, h2⟩
structure KeepI (w w' : World) : Prop where
 size : w.heap.size ≤ w'.heap.size
 keep : ∀ (k : Nat) cs t, w.heap[k]? = some (.cells cs t (0, 0)) → t ≠ 86 → w'.heap[k]? = some (.cells cs t (0, 0))
theorem KeepI.trans {w w1 w2 : World} (h : KeepI w w1) (k : KeepI w1 w2) : KeepI w w2 := ⟨Nat.le_trans h.size k.size, fun j cs t hj h1 => k.keep j cs t (h.keep j cs t hj h1) h1⟩
theorem KeepI.of_below {w w1 : World} (h : Below w.heap.size w w1) : KeepI w w1 := ⟨h.size, fun j cs t hj _ => blk_below hj h⟩
theorem KeepI.of_but {w w1 : World} {g : Nat} {cs0 : Array Value} (h : KeepBut w w1 g none) (hg : w.heap[g]? = some (.cells cs0 86 (0, 0))) : KeepI w w1 := ⟨h.1, fun k cs t hk h1 => (h.2 k (blk_lt hk) (fun e => by
 subst e
 rw [hg] at hk
 injection hk with hk
 injection hk with _ hk _
 exact h1 hk.symm) (fun e => by cases e)).trans hk⟩
structure Rd {α : Type} (w0 w : World) (g : Nat) (s : ByteArray) (r : Option (α × Int)) (v : α) (w' : World) : Prop where
 st : IS w0 w' g s (r.map Prod.snd)
 val : ∀ u q, r = some (u, q) → v = u
 bel : Below w0.heap.size w0 w'
 keep : KeepI w w'
theorem iu_calls (w0 : World) (g : Nat) (s : ByteArray) (o : Option Int) (w : World) (hG : Glob w0) (hz : s.size ≤ 140737488355327) (h : IS w0 w g s o) (hB : Below w0.heap.size w0 w) :
  Calls Tryd.prog 43 #[.pointer (some ⟨g, 0, none⟩)] w fun e w' => ∃ v : Int, e = .returned (.int .i64 v) ∧ Rd w0 w g s (numO s MI o) v w' ∧ 0 ≤ v ∧ v ≤ MI := by
 obtain ⟨p, b, hi, h0, hg, hn⟩ := h
 have hu := refRU_eq 22 s p h0 hz
 have base : ∀ r1 r3 r4, plenumref41_in_number.f 40 s p b = some (r1, s, r3, r4) → 0 ≤ r3 → (∀ q, (numO s MI o).map Prod.snd = some q → r3 = q ∧ r4 = false) → ((numO s MI o).map Prod.snd = none → r4 = true) → (∀ u q, numO s MI o = some (u, q) → r1 = u) → 0 ≤ r1 → r1 ≤ MI →
   Calls Tryd.prog 43 #[.pointer (some ⟨g, 0, none⟩)] w fun e w' => ∃ v : Int, e = .returned (.int .i64 v) ∧ Rd w0 w g s (numO s MI o) v w' ∧ 0 ≤ v ∧ v ≤ MI := fun r1 r3 r4 hf q0 q1 q2 q3 q4 q5 => by
  refine (plenumref41_in_number.calls 40 g s p b r1 s r3 r4 w0 w hG hi hB hf).mono ?_
  rintro e w' ⟨rfl, hi2, hb2, hk⟩
  exact ⟨r1, rfl, ⟨⟨r3, r4, hi2, q0, q1, q2⟩, q3, hb2, KeepI.of_but hk hi.1⟩, q4, q5⟩
 have hf0 : plenumref41_in_number.f 40 s p b = (if b = true then some (0, s, p, true) else (if (opt3 (uS s p)).2.2 = true then (if (opt3 (uS s p)).1 > 6311433599 then some (0, s, p, true) else some (wrap64 (opt3 (uS s p)).1, s, (opt3 (uS s p)).2.1, b)) else some (0, s, p, true))) := by
  unfold plenumref41_in_number.f
  rw [show (40 : Nat) = 22 + 18 from rfl, hu, Option.bind_some]
 cases o with
 | none =>
  have hb := hn rfl
  subst hb
  refine base 0 p true (by rw [hf0, if_pos rfl]) h0 (fun q hq => by cases hq) (fun _ => rfl) (fun u q hq => by cases hq) (Int.le_refl _) (by decide)
 | some q =>
  obtain ⟨e1, e2⟩ := hg q rfl
  subst e1 e2
  have hno : numO s MI (some p) = (uS s p).bind fun a => if a.1 ≤ MI then some a else none := rfl
  cases hus : uS s p with
  | none =>
   rw [hus] at hf0 hno
   refine base 0 p true (by rw [hf0]; rfl) h0 (fun q hq => by rw [hno] at hq; cases hq) (fun _ => rfl) (fun u q hq => by rw [hno] at hq; cases hq) (Int.le_refl _) (by decide)
  | some a =>
   obtain ⟨u, q⟩ := a
   have hs := uS_some hus
   rw [hus] at hf0 hno
   rw [Option.bind_some] at hno
   by_cases hm : u ≤ MI
   ·have hno2 : numO s MI (some p) = some (u, q) := hno.trans (if_pos hm)
    have hm' : u ≤ (6311433599 : Int) := hm
    refine base u q false (by
     rw [hf0, if_neg (by decide), if_pos (show (opt3 (some (u, q))).2.2 = true from rfl)]
     refine (if_neg (show ¬ u > 6311433599 by omega)).trans ?_
     show some (wrap64 u, s, q, false) = _
     rw [show wrap64 u = u by unfold wrap64; omega]) (by omega) (fun z hz => by rw [hno2] at hz; injection hz with hz; exact ⟨hz, rfl⟩) (fun hz => by rw [hno2] at hz; cases hz) (fun u' q' hq => by rw [hno2] at hq; injection hq with hq; injection hq) (by omega) hm
   ·have hno2 : numO s MI (some p) = none := hno.trans (if_neg hm)
    have hm' : ¬ u ≤ (6311433599 : Int) := hm
    refine base 0 p true (by rw [hf0, if_neg (by decide), if_pos (show (opt3 (some (u, q))).2.2 = true from rfl)]; exact if_pos (show u > 6311433599 by omega)) h0 (fun z hz => by rw [hno2] at hz; cases hz) (fun _ => rfl) (fun u' q' hq => by rw [hno2] at hq; cases hq) (Int.le_refl _) (by decide)
theorem is_calls (w0 : World) (g : Nat) (s : ByteArray) (o : Option Int) (w : World) (hG : Glob w0) (hz : s.size ≤ 140737488355327) (h : IS w0 w g s o) (hB : Below w0.heap.size w0 w) :
  Calls Tryd.prog 44 #[.pointer (some ⟨g, 0, none⟩)] w fun e w' => ∃ v : Int, e = .returned (.int .i64 v) ∧ Rd w0 w g s (o.bind fun p => sS s p) v w' := by
 obtain ⟨p, b, hi, h0, hg, hn⟩ := h
 have hu := refRS_eq 20 s p h0 hz
 have base : ∀ r1 r3 r4, plenumref41_in_signed.f 40 s p b = some (r1, s, r3, r4) → 0 ≤ r3 → (∀ q, (o.bind fun p => sS s p).map Prod.snd = some q → r3 = q ∧ r4 = false) → ((o.bind fun p => sS s p).map Prod.snd = none → r4 = true) → (∀ u q, (o.bind fun p => sS s p) = some (u, q) → r1 = u) →
   Calls Tryd.prog 44 #[.pointer (some ⟨g, 0, none⟩)] w fun e w' => ∃ v : Int, e = .returned (.int .i64 v) ∧ Rd w0 w g s (o.bind fun p => sS s p) v w' := fun r1 r3 r4 hf q0 q1 q2 q3 => by
  refine (plenumref41_in_signed.calls 40 g s p b r1 s r3 r4 w0 w hG hi hB hf).mono ?_
  rintro e w' ⟨rfl, hi2, hb2, hk⟩
  exact ⟨r1, rfl, ⟨⟨r3, r4, hi2, q0, q1, q2⟩, q3, hb2, KeepI.of_but hk hi.1⟩⟩
 have hf0 : plenumref41_in_signed.f 40 s p b = (if b = true then some (0, s, p, true) else (if (opt3 (sS s p)).2.2 = true then some ((opt3 (sS s p)).1, s, (opt3 (sS s p)).2.1, b) else some (0, s, p, true))) := by
  unfold plenumref41_in_signed.f
  rw [show (40 : Nat) = 20 + 20 from rfl, hu, Option.bind_some]
 cases o with
 | none =>
  have hb := hn rfl
  subst hb
  exact base 0 p true (by rw [hf0, if_pos rfl]) h0 (fun q hq => by cases hq) (fun _ => rfl) (fun u q hq => by cases hq)
 | some q =>
  obtain ⟨e1, e2⟩ := hg q rfl
  subst e1 e2
  have hno : ((some p).bind fun p => sS s p) = sS s p := rfl
  cases hus : sS s p with
  | none =>
   rw [hus] at hf0 hno
   exact base 0 p true (by rw [hf0]; rfl) h0 (fun q hq => by rw [hno] at hq; cases hq) (fun _ => rfl) (fun u q hq => by rw [hno] at hq; cases hq)
  | some a =>
   obtain ⟨u, q⟩ := a
   have hs := sS_some hus
   rw [hus] at hf0 hno
   exact base u q false (by rw [hf0, if_neg (by decide)]; exact if_pos rfl) (by omega) (fun z hz => by rw [hno] at hz; injection hz with hz; exact ⟨hz, rfl⟩) (fun hz => by rw [hno] at hz; cases hz) (fun u' q' hq => by rw [hno] at hq; injection hq with hq; injection hq)
theorem ih_calls (w0 : World) (g : Nat) (s : ByteArray) (o : Option Int) (w : World) (hG : Glob w0) (hz : s.size ≤ 140737488355327) (h : IS w0 w g s o) (hB : Below w0.heap.size w0 w) :
  Calls Tryd.prog 40 #[.pointer (some ⟨g, 0, none⟩)] w fun e w' => ∃ v : Int, e = .returned (.int .i64 v) ∧ Rd w0 w g s (o.bind fun p => lS s p) v w' := by
 obtain ⟨p, b, hi, h0, hg, hn⟩ := h
 have hu := refRH_eq 21 s p h0 hz
 have base : ∀ r1 r3 r4, plenumref41_in_head.f 40 s p b = some (r1, s, r3, r4) → 0 ≤ r3 → (∀ q, (o.bind fun p => lS s p).map Prod.snd = some q → r3 = q ∧ r4 = false) → ((o.bind fun p => lS s p).map Prod.snd = none → r4 = true) → (∀ u q, (o.bind fun p => lS s p) = some (u, q) → r1 = u) →
   Calls Tryd.prog 40 #[.pointer (some ⟨g, 0, none⟩)] w fun e w' => ∃ v : Int, e = .returned (.int .i64 v) ∧ Rd w0 w g s (o.bind fun p => lS s p) v w' := fun r1 r3 r4 hf q0 q1 q2 q3 => by
  refine (plenumref41_in_head.calls 40 g s p b r1 s r3 r4 w0 w hG hi hB hf).mono ?_
  rintro e w' ⟨rfl, hi2, hb2, hk⟩
  exact ⟨r1, rfl, ⟨⟨r3, r4, hi2, q0, q1, q2⟩, q3, hb2, KeepI.of_but hk hi.1⟩⟩
 have hf0 : plenumref41_in_head.f 40 s p b = (if b = true then some (0, s, p, true) else (if (opt3 (lS s p)).2.2 = true then some ((opt3 (lS s p)).1, s, (opt3 (lS s p)).2.1, b) else some (0, s, p, true))) := by
  unfold plenumref41_in_head.f
  rw [show (40 : Nat) = 21 + 19 from rfl, hu, Option.bind_some]
 cases o with
 | none =>
  have hb := hn rfl
  subst hb
  exact base 0 p true (by rw [hf0, if_pos rfl]) h0 (fun q hq => by cases hq) (fun _ => rfl) (fun u q hq => by cases hq)
 | some q =>
  obtain ⟨e1, e2⟩ := hg q rfl
  subst e1 e2
  have hno : ((some p).bind fun p => lS s p) = lS s p := rfl
  cases hus : lS s p with
  | none =>
   rw [hus] at hf0 hno
   exact base 0 p true (by rw [hf0]; rfl) h0 (fun q hq => by rw [hno] at hq; cases hq) (fun _ => rfl) (fun u q hq => by rw [hno] at hq; cases hq)
  | some a =>
   obtain ⟨u, q⟩ := a
   have hs := lS_some hus
   rw [hus] at hf0 hno
   exact base u q false (by rw [hf0, if_neg (by decide)]; exact if_pos rfl) (by omega) (fun z hz => by rw [hno] at hz; injection hz with hz; exact ⟨hz, rfl⟩) (fun hz => by rw [hno] at hz; cases hz) (fun u' q' hq => by rw [hno] at hq; injection hq with hq; injection hq)
theorem it_calls (w0 : World) (g : Nat) (s : ByteArray) (o : Option Int) (w : World) (hG : Glob w0) (hz : s.size ≤ 140737488355327) (h : IS w0 w g s o) (hB : Below w0.heap.size w0 w) :
  Calls Tryd.prog 41 #[.pointer (some ⟨g, 0, none⟩)] w fun e w' => ∃ v : ByteArray, e = .returned (.string v) ∧ Rd w0 w g s (o.bind fun p => tS s p) v w' := by
 obtain ⟨p, b, hi, h0, hg, hn⟩ := h
 have hu := refRT_eq 21 s p h0 hz
 have base : ∀ r1 r3 r4, plenumref41_in_text.f 40 s p b = some (r1, s, r3, r4) → 0 ≤ r3 → (∀ q, (o.bind fun p => tS s p).map Prod.snd = some q → r3 = q ∧ r4 = false) → ((o.bind fun p => tS s p).map Prod.snd = none → r4 = true) → (∀ u q, (o.bind fun p => tS s p) = some (u, q) → r1 = u) →
   Calls Tryd.prog 41 #[.pointer (some ⟨g, 0, none⟩)] w fun e w' => ∃ v : ByteArray, e = .returned (.string v) ∧ Rd w0 w g s (o.bind fun p => tS s p) v w' := fun r1 r3 r4 hf q0 q1 q2 q3 => by
  refine (plenumref41_in_text.calls 40 g s p b r1 s r3 r4 w0 w hG hi hB hf).mono ?_
  rintro e w' ⟨rfl, hi2, hb2, hk⟩
  exact ⟨r1, rfl, ⟨⟨r3, r4, hi2, q0, q1, q2⟩, q3, hb2, KeepI.of_but hk hi.1⟩⟩
 have hf0 : plenumref41_in_text.f 40 s p b = (if b = true then some ((⟨#[]⟩ : ByteArray), s, p, true) else (if (optT (tS s p)).2.2 = true then some ((optT (tS s p)).1, s, (optT (tS s p)).2.1, b) else some ((⟨#[]⟩ : ByteArray), s, p, true))) := by
  unfold plenumref41_in_text.f
  rw [show (40 : Nat) = 21 + 19 from rfl, hu, Option.bind_some]
 cases o with
 | none =>
  have hb := hn rfl
  subst hb
  exact base (⟨#[]⟩ : ByteArray) p true (by rw [hf0, if_pos rfl]) h0 (fun q hq => by cases hq) (fun _ => rfl) (fun u q hq => by cases hq)
 | some q =>
  obtain ⟨e1, e2⟩ := hg q rfl
  subst e1 e2
  have hno : ((some p).bind fun p => tS s p) = tS s p := rfl
  cases hus : tS s p with
  | none =>
   rw [hus] at hf0 hno
   exact base (⟨#[]⟩ : ByteArray) p true (by rw [hf0]; rfl) h0 (fun q hq => by rw [hno] at hq; cases hq) (fun _ => rfl) (fun u q hq => by rw [hno] at hq; cases hq)
  | some a =>
   obtain ⟨u, q⟩ := a
   have hs := tS_some hus
   rw [hus] at hf0 hno
   exact base u q false (by rw [hf0, if_neg (by decide)]; exact if_pos rfl) (by omega) (fun z hz => by rw [hno] at hz; injection hz with hz; exact ⟨hz, rfl⟩) (fun hz => by rw [hno] at hz; cases hz) (fun u' q' hq => by rw [hno] at hq; injection hq with hq; injection hq)
theorem id_calls (s : ByteArray) (w : World) (hG : Glob w) (hz : s.size ≤ 140737488355327) : Calls Tryd.prog 42 #[.string s] w fun e w' => e = .returned (.string (digB s)) ∧ Below w.heap.size w w' :=
 plenumref02_Digest.calls _ s _ w hG (refDigest s hz 0)
end Go.Proofs.YtbccjcdmpiolpaaDoor.T
end
section
namespace Go.Proofs.YtbccjcdmpiolpaaDoor.T
open Go.RowKit Go.Proofs.YtbccjcdmpiolpaaDoor.Pure Go.Proofs.YtbccjcdmpiolpaaDoorW.PrintWords Go.Proofs.YtbccjcdmpiolpaaDoorW.PrintLast Go.Proofs.YtbccjcdmpiolpaaDoorW.PrintMore
set_option linter.unusedVariables false
set_option linter.unusedSimpArgs false
theorem numO_le {s : ByteArray} {k : Int} (hk : k ≤ 6311433599) (o : Option Int) : numO s k o = (numO s MI o).bind fun x => if x.1 ≤ k then some x else none := by
 cases o with
 | none => rfl
 | some p =>
  show (uS s p).bind _ = ((uS s p).bind _).bind _
  cases uS s p with
  | none => rfl
  | some a =>
   rw [Option.bind_some, Option.bind_some]
   by_cases h : a.1 ≤ MI
   ·rw [if_pos h]
    rfl
   ·rw [if_neg h]
    have h' : ¬ a.1 ≤ (6311433599 : Int) := h
    exact if_neg (by omega)
theorem doc_rec {s : ByteArray} {o : Option Int} {y0 y1 y2 y3 y4 : Int} (hp : Option Int) (ho : hp = lstO s 5 o)
  (h0 : ∀ u q, numO s MI hp = some (u, q) → y0 = u) (h1 : ∀ u q, numO s MI ((numO s MI hp).map Prod.snd) = some (u, q) → y1 = u)
  (h2 : ∀ u q, numO s MI ((numO s MI ((numO s MI hp).map Prod.snd)).map Prod.snd) = some (u, q) → y2 = u)
  (h3 : ∀ u q, (((numO s MI ((numO s MI ((numO s MI hp).map Prod.snd)).map Prod.snd)).map Prod.snd).bind fun p => sS s p) = some (u, q) → y3 = u)
  (h4 : ∀ u q, numO s MI ((((numO s MI ((numO s MI ((numO s MI hp).map Prod.snd)).map Prod.snd)).map Prod.snd).bind fun p => sS s p).map Prod.snd) = some (u, q) → y4 = u) :
  (∀ q, (numO s MI ((((numO s MI ((numO s MI ((numO s MI hp).map Prod.snd)).map Prod.snd)).map Prod.snd).bind fun p => sS s p).map Prod.snd)).map Prod.snd = some q → recS s o = if y2 ≤ 3 ∧ y4 ≤ 15 then some (⟨y0, y1, ⟨y2, y3⟩, y4, 0⟩, q) else none) ∧
  ((numO s MI ((((numO s MI ((numO s MI ((numO s MI hp).map Prod.snd)).map Prod.snd)).map Prod.snd).bind fun p => sS s p).map Prod.snd)).map Prod.snd = none → recS s o = none) := by
 subst ho
 unfold recS
 cases ha : numO s MI (lstO s 5 o) with
 | none => exact ⟨fun q hq => (by cases hq), fun _ => rfl⟩
 | some a =>
  rw [ha, Option.map_some] at h1 h2 h3 h4
  rw [Option.map_some, Option.bind_some]
  have e0 := h0 a.1 a.2 ha
  cases hb : numO s MI (some a.2) with
  | none => exact ⟨fun q hq => (by cases hq), fun _ => rfl⟩
  | some b =>
   rw [hb, Option.map_some] at h2 h3 h4
   rw [Option.map_some, Option.bind_some, numO_le (k := 3) (by decide)]
   have e1 := h1 b.1 b.2 hb
   cases hc : numO s MI (some b.2) with
   | none => exact ⟨fun q hq => (by cases hq), fun _ => rfl⟩
   | some c =>
    rw [hc, Option.map_some, Option.bind_some] at h3 h4
    rw [Option.map_some, Option.bind_some, Option.bind_some]
    have e2 := h2 c.1 c.2 hc
    cases hd : sS s c.2 with
    | none =>
     refine ⟨fun q hq => (by cases hq), fun _ => ?_⟩
     by_cases hh : c.1 ≤ 3
     ·rw [if_pos hh, Option.bind_some, hd]; rfl
     ·rw [if_neg hh]; rfl
    | some d =>
     rw [hd, Option.map_some] at h4
     rw [Option.map_some]
     have e3 := h3 d.1 d.2 hd
     by_cases hh : c.1 ≤ 3
     ·rw [if_pos hh, Option.bind_some, hd, Option.bind_some, numO_le (k := 15) (by decide)]
      cases hf : numO s MI (some d.2) with
      | none => exact ⟨fun q hq => (by cases hq), fun _ => rfl⟩
      | some f =>
       have e4 := h4 f.1 f.2 hf
       refine ⟨fun q hq => ?_, fun hq => (by cases hq)⟩
       injection hq with hq
       subst hq
       rw [Option.bind_some]
       by_cases hg : f.1 ≤ 15
       ·rw [if_pos hg, if_pos ⟨by omega, by omega⟩, e0, e1, e2, e3, e4]
        rfl
       ·rw [if_neg hg, if_neg (fun h => hg (by omega))]
        rfl
     ·rw [if_neg hh]
      exact ⟨fun q hq => by rw [if_neg (fun h => hh (by omega))]; rfl, fun _ => rfl⟩
end Go.Proofs.YtbccjcdmpiolpaaDoor.T
end
