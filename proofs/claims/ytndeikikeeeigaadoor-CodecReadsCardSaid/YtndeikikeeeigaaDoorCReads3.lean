/- CodecReadsCard: one part of the proof that the law answers true for every input, and that its arguments read afterwards as before. No condition. -/
import Derived.Test.YtndeikikeeeigaaDoorCReads2
import Derived.Outline
import Derived.LoopTactic
import Derived.ProofKit
import Derived.Deep.Slices
import Derived.SizedLaws
import Derived.OpenShut
import Derived.DataReads
import Derived.SevenTiedAt
import Derived.WalkKit
import Derived.ShutString
import Derived.ChangeOld
import Derived.Below
import Derived.Test.YtndeikikeeeigaaDoorCards
import Derived.Test.YtndeikikeeeigaaDoorRows
import Derived.Test.YtndeikikeeeigaaDoorTie
section
namespace Go.Proofs.YtndeikikeeeigaaDoor.Q
open Go.RowKit Go.Proofs.YtndeikikeeeigaaDoorW.PrintWords Go.Proofs.YtndeikikeeeigaaDoorW.PrintLast Go.Proofs.YtndeikikeeeigaaDoorW.PrintMore
attribute [local go_sem] max2_int min2_int max_two min_two max_three min_three max_four min_four
set_option linter.unusedVariables false
set_option linter.unusedSimpArgs false
def codec_Reader_Bool_1.f (k : Nat) (a0 : ByteArray) (a1 : Int) : Option (Bool × Int × Bool) := (codec_kind.f k a0 a1).bind fun t344 => (if t344 = 2 then (if 0 ≤ a1 then (if a1 < (a0.size : Int) then (some (((bt a0 a1) == 2), wrap64 (a1 + 1), true)) else (none)) else (none)) else (some (false, 0, false)))
set_option maxHeartbeats 8000000 in
set_option maxRecDepth 100000 in
theorem codec_Reader_Bool_1.calls (k : Nat) (a0 : ByteArray) (a1 : Int) (r1 : Bool) (r2 : Int) (r3 : Bool) (w : World) (hG : Glob w) (h : codec_Reader_Bool_1.f k a0 a1 = some (r1, r2, r3)) :
    Calls Tryd.prog 59 #[.string a0, .int .i64 a1] w fun e w' => e = .returned (.tuple #[.bool r1, .int .i64 r2, .bool r3]) ∧ Drawn0 w w' := by
  have HG := Aside0.mk hG
  clear hG
  have H : ((codec_kind.f k a0 a1).bind fun t344 => (if t344 = 2 then (if 0 ≤ a1 then (if a1 < (a0.size : Int) then (some (((bt a0 a1) == 2), wrap64 (a1 + 1), true)) else (none)) else (none)) else (some (false, 0, false)))) = some (r1, r2, r3) := h
  clear h
  replace H := Option.bind_eq_some_iff.mp H
  obtain ⟨t344, A30, H⟩ := H
  replace H : (if t344 = 2 then (if 0 ≤ a1 then (if a1 < (a0.size : Int) then (some (((bt a0 a1) == 2), wrap64 (a1 + 1), true)) else (none)) else (none)) else (some (false, 0, false))) = some (r1, r2, r3) := H
  have A3 := Aside0.mk A30
  clear A30
  by_cases c4 : t344 = 2
  · rw [if_pos c4] at H
    have c4b0 : (t344 == 2) = true := beq_iff_eq.mpr c4
    have c4b1 : (t344 != 2) = false := bne_eq_false_iff_eq.mpr c4
    clear c4
    by_cases c5 : 0 ≤ a1
    · rw [if_pos c5] at H
      have c5b0 : decide (0 ≤ a1) = true := decide_eq_true c5
      clear c5
      by_cases c6 : a1 < (a0.size : Int)
      · rw [if_pos c6] at H
        have c6b0 : decide (a1 < (a0.size : Int)) = true := decide_eq_true c6
        clear c6
        simp only [Option.some.injEq, Prod.mk.injEq] at H
        obtain ⟨rfl, rfl, rfl⟩ := H
        go_enter Tryd.func59, Tryd.ntmps59
        go_wp2_with (first | ((with_reducible refine gate_callee (f := 49) rfl ?_); refine goesL_ (some 9) rfl rfl Tryd.func49 (by kernel_rfl) rfl #[.string a0, .int .i64 a1] rfl (by (try simp only [List.map_toArray, List.map_cons, List.map_nil]); first | done | rfl | (simp only [List.length_drop, List.length_take]; rfl)) ?_; (with_reducible refine (codec_kind.calls k a0 a1 t344 _ ?side99  A3.out).mono ?_); (case side99 => first | exact HG.out | exact Glob.below HG.out (by repeat (first | (with_reducible first | exact HB.out | apply below_alloc | apply pw_below_drewN | apply below_drew1) | exact HB.out))); rintro e w' ⟨rfl, ⟨nd, rfl⟩⟩; refine ⟨_, rfl, ?_⟩; have p7 : 0 ≤ (a1 : Int) := of_decide_eq_true (by first | (with_reducible assumption) | assumption); have q7 : a1 < (a0.size : Int) := of_decide_eq_true (by first | (with_reducible assumption) | assumption); have hx7 := bt_at a0 a1; replace p7 := eq_true p7; replace q7 := eq_true q7))
        go_ret3
        exact ⟨by first | rfl | (simp; done) | (simp [*]; done), by repeat (first | exact Drawn0.refl _ | apply Drawn0.step)⟩
      · rw [if_neg c6] at H
        exact absurd H (by simp)
    · rw [if_neg c5] at H
      exact absurd H (by simp)
  · rw [if_neg c4] at H
    have c4b0 : (t344 == 2) = false := beq_eq_false_iff_ne.mpr c4
    have c4b1 : (t344 != 2) = true := bne_iff_ne.mpr c4
    simp only [Option.some.injEq, Prod.mk.injEq] at H
    obtain ⟨rfl, rfl, rfl⟩ := H
    go_enter Tryd.func59, Tryd.ntmps59
    go_wp2_with (first | ((with_reducible refine gate_callee (f := 49) rfl ?_); refine goesL_ (some 9) rfl rfl Tryd.func49 (by kernel_rfl) rfl #[.string a0, .int .i64 a1] rfl (by (try simp only [List.map_toArray, List.map_cons, List.map_nil]); first | done | rfl | (simp only [List.length_drop, List.length_take]; rfl)) ?_; (with_reducible refine (codec_kind.calls k a0 a1 t344 _ ?side99  A3.out).mono ?_); (case side99 => first | exact HG.out | exact Glob.below HG.out (by repeat (first | (with_reducible first | exact HB.out | apply below_alloc | apply pw_below_drewN | apply below_drew1) | exact HB.out))); rintro e w' ⟨rfl, ⟨nd, rfl⟩⟩; refine ⟨_, rfl, ?_⟩))
    go_ret3
    exact ⟨by first | rfl | (simp; done) | (simp [*]; done), by repeat (first | exact Drawn0.refl _ | apply Drawn0.step)⟩
end Go.Proofs.YtndeikikeeeigaaDoor.Q
end
section
namespace Go.Proofs.YtndeikikeeeigaaDoor.Q
open Go.RowKit Go.Proofs.YtndeikikeeeigaaDoorW.PrintWords Go.Proofs.YtndeikikeeeigaaDoorW.PrintLast Go.Proofs.YtndeikikeeeigaaDoorW.PrintMore
attribute [local go_sem] max2_int min2_int max_two min_two max_three min_three max_four min_four
set_option linter.unusedVariables false
set_option linter.unusedSimpArgs false
def codec_Reader_Bool.f (k : Nat) (s0_0 : ByteArray) (s0_1 : Int) (s0_2 : Int) : Option (Bool × ByteArray × Int × Int) := if s0_2 = 0 then ((codec_Reader_Bool_1.f k s0_0 s0_1).bind fun bt345 => (if bt345.2.2 = true then (some (bt345.1, s0_0, bt345.2.1, s0_2)) else (some (false, s0_0, s0_1, 2)))) else (some (false, s0_0, s0_1, s0_2))
def codec_Reader_Bool.T58004 : Bool × List (List Nat × List Nat) := (true, [([], []), ([], []), ([1], [1]), ([2], [2]), ([3], [3]), ([], []), ([5], [5]), ([6], [6]), ([7], [7]), ([0, 4, 8], [0, 4, 8]), ([9], [9]), ([10], [10]), ([10], [10]), ([10], [10]), ([11, 9, 0, 1, 2, 3, 4, 5, 6, 7, 8, 9, 10, 11], [11]), ([12, 14, 0, 1, 2, 3, 4, 5, 6, 7, 8, 9, 10, 11, 12, 14], [12]), ([13, 15, 0, 1, 2, 3, 4, 5, 6, 7, 8, 9, 10, 11, 12, 13, 14, 15], [13])])
def codec_Reader_Bool.B58004 : List Nat := [0, 0, 2, 6, 14, 0, 32, 96, 224, 511, 1023, 2047, 2047, 2047, 4095, 24575, 65535]
theorem codec_Reader_Bool.tab58004 : rtab .any (opsOf Tryd.f58 4) = codec_Reader_Bool.T58004 := by kernel_rfl
theorem codec_Reader_Bool.bits58004 : waitsOk codec_Reader_Bool.T58004.2 codec_Reader_Bool.B58004 = true := by kernel_rfl
set_option maxHeartbeats 8000000 in
set_option maxRecDepth 100000 in
theorem codec_Reader_Bool.calls (k : Nat) (g : Nat) (s0_0 : ByteArray) (s0_1 : Int) (s0_2 : Int) (r1 : Bool) (r2 : ByteArray) (r3 : Int) (r4 : Int) (w0 w : World) (hG : Glob w0) (hI : IsS78 w0 w g s0_0 s0_1 s0_2) (hB : Below w0.heap.size w0 w) (h : codec_Reader_Bool.f k s0_0 s0_1 s0_2 = some (r1, r2, r3, r4)) :
    Calls Tryd.prog 30 #[.pointer (some ⟨g, 0, none⟩)] w fun e w' => e = .returned (.bool r1) ∧ IsS78 w0 w' g r2 r3 r4 ∧ Below w0.heap.size w0 w' ∧ KeepBut w w' g none := by
  have hmf_ : ∀ (fn : Fn) (first cap : Array Value) (w : World), (Instr.makeFunc fn first cap).run Tryd.prog w = .ok (.func fn first cap) w := fun _ _ _ _ => rfl
  have HG := Aside0.mk hG
  clear hG
  have HI0 := Aside0.mk hI
  have HK := Aside0.mk (KeepBut.refl w g none)
  have HL := Aside0.mk hB.size
  clear hI
  have HW0 := Aside0.mk hB.size
  have HB := Aside0.mk hB
  clear hB
  have H : (if s0_2 = 0 then ((codec_Reader_Bool_1.f k s0_0 s0_1).bind fun bt345 => (if bt345.2.2 = true then (some (bt345.1, s0_0, bt345.2.1, s0_2)) else (some (false, s0_0, s0_1, 2)))) else (some (false, s0_0, s0_1, s0_2))) = some (r1, r2, r3, r4) := h
  clear h
  by_cases c2 : s0_2 = 0
  · rw [if_pos c2] at H
    have c2b0 : (s0_2 == 0) = true := beq_iff_eq.mpr c2
    have c2b1 : (s0_2 != 0) = false := bne_eq_false_iff_eq.mpr c2
    clear c2
    replace H := Option.bind_eq_some_iff.mp H
    obtain ⟨⟨t345, t346, t347⟩, A30, H⟩ := H
    replace H : (if t347 = true then (some (t345, s0_0, t346, s0_2)) else (some (false, s0_0, s0_1, 2))) = some (r1, r2, r3, r4) := H
    have A3 := Aside0.mk A30
    clear A30
    by_cases c4 : t347 = true
    · subst c4
      have H1 : (some (t345, s0_0, t346, s0_2)) = some (r1, r2, r3, r4) := by rw [if_pos rfl] at H; exact H
      clear H
      have H := H1
      clear H1
      simp only [Option.some.injEq, Prod.mk.injEq] at H
      obtain ⟨rfl, rfl, rfl, rfl⟩ := H
      obtain ⟨HGz5, hgz5⟩ := HI0.out
      have hcz5_0 := cellS78_0 HGz5
      have hcz5_1 := cellS78_1 HGz5
      have hcz5_2 := cellS78_2 HGz5
      have hfz5_0 := blk_frozen HGz5 0
      have hfz5_1 := blk_frozen HGz5 1
      have hfz5_2 := blk_frozen HGz5 2
      clear HGz5 hgz5
      go_enter Tryd.func30, Tryd.ntmps30
      try go_wp2_with (first | (go_at_call 58; go_in) | ((try simp only [Exit.inBlock, Exit.then]); refine bodyPost_end (results_none rfl _ _ _) rfl ?_; simp only []; go_at_K))
      have n0_ := Aside0.mk (IsS78.drew HI0.out)
      have n1_ := Aside0.mk (keep_drew HK.out)
      have n2_ := Aside0.mk (below_drew1 HB.out)
      clear HI0
      clear HK
      clear HB
      have HI0 := n0_
      have HK := n1_
      have HB := n2_
      clear n0_ n1_ n2_
      refine start_ (n := 17) (S := fun w' => w'.cell? ⟨g, 0, none⟩ = some (.string s0_0) ∧ w'.cell? ⟨g, 1, none⟩ = some (.int .i64 s0_1) ∧ w'.cell? ⟨g, 2, none⟩ = some (.int .i64 s0_2)) (ds := []) #[false, false, false, false, false, false, false, false, false, false, false, false, false, false, false, false, false] (by kernel_rfl) rfl rfl ⟨(blk_cell (Aside0.mk HI0.out.1).out 0).trans rfl, (blk_cell (Aside0.mk HI0.out.1).out 1).trans rfl, (blk_cell (Aside0.mk HI0.out.1).out 2).trans rfl⟩ (fun hHeld => ?_); refine with_tabW codec_Reader_Bool.tab58004 codec_Reader_Bool.bits58004 (fun HT_ HW_ => ?_)
      generalize w.drew = w6 at HI0 HK HB hHeld ⊢
      refine pure_ (i := 0) (N := some 16) (v := ?_) (a' := ?_) #[true, false, false, false, false, false, false, false, false, false, false, false, false, false, false, false, false] rfl rfl (any_of HT_.out (by kernel_rfl)) (fun _ _ _ h => h) (Or.inl ⟨by rfl, ?_⟩) ?_ ?_
      rotate_left
      · intro w'
        go_simp
        with_reducible rfl
      rotate_left
      · simp only [Act.put, List.setIfInBounds_toArray, List.set_cons_zero, List.set_cons_succ, i64_w, i32_w]
        rfl
      refine pure_ (i := 1) (N := some 17) (v := ?_) (a' := ?_) #[true, true, false, false, false, false, false, false, false, false, false, false, false, false, false, false, false] rfl rfl (any_of HT_.out (by kernel_rfl)) (fun _ _ _ h => h) (Or.inl ⟨by rfl, ?_⟩) ?_ ?_
      rotate_left
      · intro w'
        go_simp
        with_reducible rfl
      rotate_left
      · simp only [Act.put, List.setIfInBounds_toArray, List.set_cons_zero, List.set_cons_succ, i64_w, i32_w]
        rfl
      refine pure_ (i := 2) (N := some 18) (v := ?_) (a' := ?_) #[true, true, true, false, false, false, false, false, false, false, false, false, false, false, false, false, false] rfl rfl (any_of HT_.out (by kernel_rfl)) (fun _ _ _ h => h) (Or.inl ⟨by rfl, ?_⟩) ?_ ?_
      rotate_left
      · intro w'
        go_simp
        with_reducible rfl
      rotate_left
      · simp only [Act.put, List.setIfInBounds_toArray, List.set_cons_zero, List.set_cons_succ, i64_w, i32_w]
        rfl
      refine pure_ (i := 3) (N := some 19) (v := ?_) (a' := ?_) #[true, true, true, true, false, false, false, false, false, false, false, false, false, false, false, false, false] rfl rfl (any_of HT_.out (by kernel_rfl)) (fun _ _ _ h => h) (Or.inl ⟨by rfl, ?_⟩) ?_ ?_
      rotate_left
      · intro w'
        go_simp
        with_reducible rfl
      rotate_left
      · simp only [Act.put, List.setIfInBounds_toArray, List.set_cons_zero, List.set_cons_succ, i64_w, i32_w]
        rfl
      refine pure_ (i := 5) (N := some 21) (v := ?_) (a' := ?_) #[true, true, true, true, false, true, false, false, false, false, false, false, false, false, false, false, false] rfl rfl (any_of HT_.out (by kernel_rfl)) (fun _ _ _ h => h) (Or.inl ⟨by rfl, ?_⟩) ?_ ?_
      rotate_left
      · intro w'
        go_simp
        with_reducible rfl
      rotate_left
      · simp only [Act.put, List.setIfInBounds_toArray, List.set_cons_zero, List.set_cons_succ, i64_w, i32_w]
        rfl
      refine pure_ (i := 6) (N := some 22) (v := ?_) (a' := ?_) #[true, true, true, true, false, true, true, false, false, false, false, false, false, false, false, false, false] rfl rfl (any_of HT_.out (by kernel_rfl)) (fun _ _ _ h => h) (Or.inl ⟨by rfl, ?_⟩) ?_ ?_
      rotate_left
      · intro w'
        go_simp
        with_reducible rfl
      rotate_left
      · simp only [Act.put, List.setIfInBounds_toArray, List.set_cons_zero, List.set_cons_succ, i64_w, i32_w]
        rfl
      refine pure_ (i := 7) (N := some 23) (v := ?_) (a' := ?_) #[true, true, true, true, false, true, true, true, false, false, false, false, false, false, false, false, false] rfl rfl (any_of HT_.out (by kernel_rfl)) (fun _ _ _ h => h) (Or.inl ⟨by rfl, ?_⟩) ?_ ?_
      rotate_left
      · intro w'
        go_simp
        with_reducible rfl
      rotate_left
      · simp only [Act.put, List.setIfInBounds_toArray, List.set_cons_zero, List.set_cons_succ, i64_w, i32_w]
        rfl
      refine take_ (i := 4) (N := some 20) (v := ?_) (a' := ?_) #[true, true, true, true, true, true, true, true, false, false, false, false, false, false, false, false, false] rfl rfl (take_ofW HT_.out HW_.out (by kernel_rfl)) (fun _ _ _ h => h) (Or.inl ⟨by rfl, ?_⟩) hHeld ?_ ?_
      rotate_left
      · rintro w' ⟨s0, s1, s2⟩
        go_simp
        with_reducible rfl
      rotate_left
      · simp only [Act.put, List.setIfInBounds_toArray, List.set_cons_zero, List.set_cons_succ, i64_w, i32_w]
        rfl
      refine take_ (i := 8) (N := some 24) (v := ?_) (a' := ?_) #[true, true, true, true, true, true, true, true, true, false, false, false, false, false, false, false, false] rfl rfl (take_ofW HT_.out HW_.out (by kernel_rfl)) (fun _ _ _ h => h) (Or.inl ⟨by rfl, ?_⟩) hHeld ?_ ?_
      rotate_left
      · rintro w' ⟨s0, s1, s2⟩
        go_simp
        with_reducible rfl
      rotate_left
      · simp only [Act.put, List.setIfInBounds_toArray, List.set_cons_zero, List.set_cons_succ, i64_w, i32_w]
        rfl
      refine one_ (i := 9) (N := some 25) #[true, true, true, true, true, true, true, true, true, true, false, false, false, false, false, false, false] rfl rfl (one_of HT_.out (by kernel_rfl)) (by decide) (fun K hK => ?_)
      refine goesT_ Tryd.func59 (by kernel_rfl) rfl #[.string s0_0, .int .i64 s0_1] (by rfl) rfl rfl rfl (by (try simp only [List.map_toArray, List.map_cons, List.map_nil]); first | done | rfl | (simp only [List.length_drop, List.length_take]; rfl)) ?_
      with_reducible refine (codec_Reader_Bool_1.calls k s0_0 s0_1 t345 t346 true _ ?side99  A3.out).mono ?_
      (case side99 => first | exact HG.out | exact Glob.below HG.out (by repeat (first | (with_reducible first | exact HB.out | apply below_alloc | apply pw_below_drewN | apply below_drew1 | refine below_set ?_ (IsS78.ge HI0.out)) | exact HB.out)))
      rintro e w' ⟨rfl, ⟨nd, rfl⟩⟩
      refine ⟨_, rfl, ?_⟩
      refine hK.out _ _ ⟨(blk_cell (Aside0.mk HI0.out.1).out 0).trans rfl, (blk_cell (Aside0.mk HI0.out.1).out 1).trans rfl, (blk_cell (Aside0.mk HI0.out.1).out 2).trans rfl⟩ (fun hHeld => ?_)
      clear hK K
      refine norm_ (a' := ?_) ?_ ?_
      rotate_left
      · show Act.put _ (some 25) _ = _
        simp only [Act.put, List.setIfInBounds_toArray, List.set_cons_zero, List.set_cons_succ, i64_w, i32_w]
        rfl
      refine pure_ (i := 10) (N := some 15) (v := ?_) (a' := ?_) #[true, true, true, true, true, true, true, true, true, true, true, false, false, false, false, false, false] rfl rfl (any_of HT_.out (by kernel_rfl)) (fun _ _ _ h => h) (Or.inl ⟨by rfl, ?_⟩) ?_ ?_
      rotate_left
      · intro w'
        go_simp
        with_reducible rfl
      rotate_left
      · simp only [Act.put, List.setIfInBounds_toArray, List.set_cons_zero, List.set_cons_succ, i64_w, i32_w]
        rfl
      refine pure_ (i := 11) (N := some 26) (v := ?_) (a' := ?_) #[true, true, true, true, true, true, true, true, true, true, true, true, false, false, false, false, false] rfl rfl (any_of HT_.out (by kernel_rfl)) (fun _ _ _ h => h) (Or.inl ⟨by rfl, ?_⟩) ?_ ?_
      rotate_left
      · intro w'
        go_simp
        with_reducible rfl
      rotate_left
      · simp only [Act.put, List.setIfInBounds_toArray, List.set_cons_zero, List.set_cons_succ, i64_w, i32_w]
        rfl
      refine pure_ (i := 12) (N := some 27) (v := ?_) (a' := ?_) #[true, true, true, true, true, true, true, true, true, true, true, true, true, false, false, false, false] rfl rfl (any_of HT_.out (by kernel_rfl)) (fun _ _ _ h => h) (Or.inl ⟨by rfl, ?_⟩) ?_ ?_
      rotate_left
      · intro w'
        go_simp
        with_reducible rfl
      rotate_left
      · simp only [Act.put, List.setIfInBounds_toArray, List.set_cons_zero, List.set_cons_succ, i64_w, i32_w]
        rfl
      refine pure_ (i := 13) (N := some 28) (v := ?_) (a' := ?_) #[true, true, true, true, true, true, true, true, true, true, true, true, true, true, false, false, false] rfl rfl (any_of HT_.out (by kernel_rfl)) (fun _ _ _ h => h) (Or.inl ⟨by rfl, ?_⟩) ?_ ?_
      rotate_left
      · intro w'
        go_simp
        with_reducible rfl
      rotate_left
      · simp only [Act.put, List.setIfInBounds_toArray, List.set_cons_zero, List.set_cons_succ, i64_w, i32_w]
        rfl
      refine pure_ (i := 14) (N := some 6) (v := ?_) (a' := ?_) #[true, true, true, true, true, true, true, true, true, true, true, true, true, true, true, false, false] rfl rfl (any_of HT_.out (by kernel_rfl)) (fun _ _ _ h => h) (Or.inl ⟨by rfl, ?_⟩) ?_ ?_
      rotate_left
      · intro w'
        go_simp
        with_reducible rfl
      rotate_left
      · simp only [Act.put, List.setIfInBounds_toArray, List.set_cons_zero, List.set_cons_succ, i64_w, i32_w]
        rfl
      refine pure_ (i := 15) (N := some 7) (v := ?_) (a' := ?_) #[true, true, true, true, true, true, true, true, true, true, true, true, true, true, true, true, false] rfl rfl (any_of HT_.out (by kernel_rfl)) (fun _ _ _ h => h) (Or.inl ⟨by rfl, ?_⟩) ?_ ?_
      rotate_left
      · intro w'
        go_simp
        with_reducible rfl
      rotate_left
      · simp only [Act.put, List.setIfInBounds_toArray, List.set_cons_zero, List.set_cons_succ, i64_w, i32_w]
        rfl
      refine pure_ (i := 16) (N := some 8) (v := ?_) (a' := ?_) #[true, true, true, true, true, true, true, true, true, true, true, true, true, true, true, true, true] rfl rfl (any_of HT_.out (by kernel_rfl)) (fun _ _ _ h => h) (Or.inl ⟨by rfl, ?_⟩) ?_ ?_
      rotate_left
      · intro w'
        go_simp
        with_reducible rfl
      rotate_left
      · simp only [Act.put, List.setIfInBounds_toArray, List.set_cons_zero, List.set_cons_succ, i64_w, i32_w]
        rfl
      refine done_ (done_of HT_.out (by kernel_rfl)) ?_
      obtain ⟨HGz7, hgz7⟩ := HI0.out
      have hcz7_0 := cellS78_0 HGz7
      have hcz7_1 := cellS78_1 HGz7
      have hcz7_2 := cellS78_2 HGz7
      have hfz7_0 := blk_frozen HGz7 0
      have hfz7_1 := blk_frozen HGz7 1
      have hfz7_2 := blk_frozen HGz7 2
      clear HGz7 hgz7
      try go_wp2_with (first | (go_at_call 58; go_in) | ((try simp only [Exit.inBlock, Exit.then]); refine bodyPost_end (results_none rfl _ _ _) rfl ?_; simp only []; go_at_K))
      go_ret
      exact ⟨by first | rfl | (simp [errW_none, errW_some] <;> rfl) | (simp [*, errW_none, errW_some] <;> rfl), by repeat (first | (with_reducible first | exact HI0.out | apply IsS78.alloc | apply IsS78.drewN | apply IsS78.drew | apply IsS78.set_0 | apply IsS78.set_1 | apply IsS78.set_2) | exact HI0.out), by repeat (first | (with_reducible first | exact HB.out | apply below_alloc | apply pw_below_drewN | apply below_drew1 | refine below_set ?_ (IsS78.ge HI0.out)) | exact HB.out), by repeat (first | (with_reducible first | exact HK.out | apply KeepBut.set_ | apply keep_drewN | apply keep_drew | apply keep_alloc) | exact HK.out)⟩
    · replace c4 := Bool.eq_false_iff.mpr c4
      subst c4
      have H1 : (some (false, s0_0, s0_1, 2)) = some (r1, r2, r3, r4) := by rw [if_neg (show ¬ (false = true) by decide)] at H; exact H
      clear H
      have H := H1
      clear H1
      simp only [Option.some.injEq, Prod.mk.injEq] at H
      obtain ⟨rfl, rfl, rfl, rfl⟩ := H
      obtain ⟨HGz8, hgz8⟩ := HI0.out
      have hcz8_0 := cellS78_0 HGz8
      have hcz8_1 := cellS78_1 HGz8
      have hcz8_2 := cellS78_2 HGz8
      have hfz8_0 := blk_frozen HGz8 0
      have hfz8_1 := blk_frozen HGz8 1
      have hfz8_2 := blk_frozen HGz8 2
      clear HGz8 hgz8
      go_enter Tryd.func30, Tryd.ntmps30
      try go_wp2_with (first | (go_at_call 58; go_in) | ((try simp only [Exit.inBlock, Exit.then]); refine bodyPost_end (results_none rfl _ _ _) rfl ?_; simp only []; go_at_K))
      have n0_ := Aside0.mk (IsS78.drew HI0.out)
      have n1_ := Aside0.mk (keep_drew HK.out)
      have n2_ := Aside0.mk (below_drew1 HB.out)
      clear HI0
      clear HK
      clear HB
      have HI0 := n0_
      have HK := n1_
      have HB := n2_
      clear n0_ n1_ n2_
      refine start_ (n := 17) (S := fun w' => w'.cell? ⟨g, 0, none⟩ = some (.string s0_0) ∧ w'.cell? ⟨g, 1, none⟩ = some (.int .i64 s0_1) ∧ w'.cell? ⟨g, 2, none⟩ = some (.int .i64 s0_2)) (ds := []) #[false, false, false, false, false, false, false, false, false, false, false, false, false, false, false, false, false] (by kernel_rfl) rfl rfl ⟨(blk_cell (Aside0.mk HI0.out.1).out 0).trans rfl, (blk_cell (Aside0.mk HI0.out.1).out 1).trans rfl, (blk_cell (Aside0.mk HI0.out.1).out 2).trans rfl⟩ (fun hHeld => ?_); refine with_tabW codec_Reader_Bool.tab58004 codec_Reader_Bool.bits58004 (fun HT_ HW_ => ?_)
      generalize w.drew = w9 at HI0 HK HB hHeld ⊢
      refine pure_ (i := 0) (N := some 16) (v := ?_) (a' := ?_) #[true, false, false, false, false, false, false, false, false, false, false, false, false, false, false, false, false] rfl rfl (any_of HT_.out (by kernel_rfl)) (fun _ _ _ h => h) (Or.inl ⟨by rfl, ?_⟩) ?_ ?_
      rotate_left
      · intro w'
        go_simp
        with_reducible rfl
      rotate_left
      · simp only [Act.put, List.setIfInBounds_toArray, List.set_cons_zero, List.set_cons_succ, i64_w, i32_w]
        rfl
      refine pure_ (i := 1) (N := some 17) (v := ?_) (a' := ?_) #[true, true, false, false, false, false, false, false, false, false, false, false, false, false, false, false, false] rfl rfl (any_of HT_.out (by kernel_rfl)) (fun _ _ _ h => h) (Or.inl ⟨by rfl, ?_⟩) ?_ ?_
      rotate_left
      · intro w'
        go_simp
        with_reducible rfl
      rotate_left
      · simp only [Act.put, List.setIfInBounds_toArray, List.set_cons_zero, List.set_cons_succ, i64_w, i32_w]
        rfl
      refine pure_ (i := 2) (N := some 18) (v := ?_) (a' := ?_) #[true, true, true, false, false, false, false, false, false, false, false, false, false, false, false, false, false] rfl rfl (any_of HT_.out (by kernel_rfl)) (fun _ _ _ h => h) (Or.inl ⟨by rfl, ?_⟩) ?_ ?_
      rotate_left
      · intro w'
        go_simp
        with_reducible rfl
      rotate_left
      · simp only [Act.put, List.setIfInBounds_toArray, List.set_cons_zero, List.set_cons_succ, i64_w, i32_w]
        rfl
      refine pure_ (i := 3) (N := some 19) (v := ?_) (a' := ?_) #[true, true, true, true, false, false, false, false, false, false, false, false, false, false, false, false, false] rfl rfl (any_of HT_.out (by kernel_rfl)) (fun _ _ _ h => h) (Or.inl ⟨by rfl, ?_⟩) ?_ ?_
      rotate_left
      · intro w'
        go_simp
        with_reducible rfl
      rotate_left
      · simp only [Act.put, List.setIfInBounds_toArray, List.set_cons_zero, List.set_cons_succ, i64_w, i32_w]
        rfl
      refine pure_ (i := 5) (N := some 21) (v := ?_) (a' := ?_) #[true, true, true, true, false, true, false, false, false, false, false, false, false, false, false, false, false] rfl rfl (any_of HT_.out (by kernel_rfl)) (fun _ _ _ h => h) (Or.inl ⟨by rfl, ?_⟩) ?_ ?_
      rotate_left
      · intro w'
        go_simp
        with_reducible rfl
      rotate_left
      · simp only [Act.put, List.setIfInBounds_toArray, List.set_cons_zero, List.set_cons_succ, i64_w, i32_w]
        rfl
      refine pure_ (i := 6) (N := some 22) (v := ?_) (a' := ?_) #[true, true, true, true, false, true, true, false, false, false, false, false, false, false, false, false, false] rfl rfl (any_of HT_.out (by kernel_rfl)) (fun _ _ _ h => h) (Or.inl ⟨by rfl, ?_⟩) ?_ ?_
      rotate_left
      · intro w'
        go_simp
        with_reducible rfl
      rotate_left
      · simp only [Act.put, List.setIfInBounds_toArray, List.set_cons_zero, List.set_cons_succ, i64_w, i32_w]
        rfl
      refine pure_ (i := 7) (N := some 23) (v := ?_) (a' := ?_) #[true, true, true, true, false, true, true, true, false, false, false, false, false, false, false, false, false] rfl rfl (any_of HT_.out (by kernel_rfl)) (fun _ _ _ h => h) (Or.inl ⟨by rfl, ?_⟩) ?_ ?_
      rotate_left
      · intro w'
        go_simp
        with_reducible rfl
      rotate_left
      · simp only [Act.put, List.setIfInBounds_toArray, List.set_cons_zero, List.set_cons_succ, i64_w, i32_w]
        rfl
      refine take_ (i := 4) (N := some 20) (v := ?_) (a' := ?_) #[true, true, true, true, true, true, true, true, false, false, false, false, false, false, false, false, false] rfl rfl (take_ofW HT_.out HW_.out (by kernel_rfl)) (fun _ _ _ h => h) (Or.inl ⟨by rfl, ?_⟩) hHeld ?_ ?_
      rotate_left
      · rintro w' ⟨s0, s1, s2⟩
        go_simp
        with_reducible rfl
      rotate_left
      · simp only [Act.put, List.setIfInBounds_toArray, List.set_cons_zero, List.set_cons_succ, i64_w, i32_w]
        rfl
      refine take_ (i := 8) (N := some 24) (v := ?_) (a' := ?_) #[true, true, true, true, true, true, true, true, true, false, false, false, false, false, false, false, false] rfl rfl (take_ofW HT_.out HW_.out (by kernel_rfl)) (fun _ _ _ h => h) (Or.inl ⟨by rfl, ?_⟩) hHeld ?_ ?_
      rotate_left
      · rintro w' ⟨s0, s1, s2⟩
        go_simp
        with_reducible rfl
      rotate_left
      · simp only [Act.put, List.setIfInBounds_toArray, List.set_cons_zero, List.set_cons_succ, i64_w, i32_w]
        rfl
      refine one_ (i := 9) (N := some 25) #[true, true, true, true, true, true, true, true, true, true, false, false, false, false, false, false, false] rfl rfl (one_of HT_.out (by kernel_rfl)) (by decide) (fun K hK => ?_)
      refine goesT_ Tryd.func59 (by kernel_rfl) rfl #[.string s0_0, .int .i64 s0_1] (by rfl) rfl rfl rfl (by (try simp only [List.map_toArray, List.map_cons, List.map_nil]); first | done | rfl | (simp only [List.length_drop, List.length_take]; rfl)) ?_
      with_reducible refine (codec_Reader_Bool_1.calls k s0_0 s0_1 t345 t346 false _ ?side99  A3.out).mono ?_
      (case side99 => first | exact HG.out | exact Glob.below HG.out (by repeat (first | (with_reducible first | exact HB.out | apply below_alloc | apply pw_below_drewN | apply below_drew1 | refine below_set ?_ (IsS78.ge HI0.out)) | exact HB.out)))
      rintro e w' ⟨rfl, ⟨nd, rfl⟩⟩
      refine ⟨_, rfl, ?_⟩
      refine hK.out _ _ ⟨(blk_cell (Aside0.mk HI0.out.1).out 0).trans rfl, (blk_cell (Aside0.mk HI0.out.1).out 1).trans rfl, (blk_cell (Aside0.mk HI0.out.1).out 2).trans rfl⟩ (fun hHeld => ?_)
      clear hK K
      refine norm_ (a' := ?_) ?_ ?_
      rotate_left
      · show Act.put _ (some 25) _ = _
        simp only [Act.put, List.setIfInBounds_toArray, List.set_cons_zero, List.set_cons_succ, i64_w, i32_w]
        rfl
      refine pure_ (i := 10) (N := some 15) (v := ?_) (a' := ?_) #[true, true, true, true, true, true, true, true, true, true, true, false, false, false, false, false, false] rfl rfl (any_of HT_.out (by kernel_rfl)) (fun _ _ _ h => h) (Or.inl ⟨by rfl, ?_⟩) ?_ ?_
      rotate_left
      · intro w'
        go_simp
        with_reducible rfl
      rotate_left
      · simp only [Act.put, List.setIfInBounds_toArray, List.set_cons_zero, List.set_cons_succ, i64_w, i32_w]
        rfl
      refine pure_ (i := 11) (N := some 26) (v := ?_) (a' := ?_) #[true, true, true, true, true, true, true, true, true, true, true, true, false, false, false, false, false] rfl rfl (any_of HT_.out (by kernel_rfl)) (fun _ _ _ h => h) (Or.inl ⟨by rfl, ?_⟩) ?_ ?_
      rotate_left
      · intro w'
        go_simp
        with_reducible rfl
      rotate_left
      · simp only [Act.put, List.setIfInBounds_toArray, List.set_cons_zero, List.set_cons_succ, i64_w, i32_w]
        rfl
      refine pure_ (i := 12) (N := some 27) (v := ?_) (a' := ?_) #[true, true, true, true, true, true, true, true, true, true, true, true, true, false, false, false, false] rfl rfl (any_of HT_.out (by kernel_rfl)) (fun _ _ _ h => h) (Or.inl ⟨by rfl, ?_⟩) ?_ ?_
      rotate_left
      · intro w'
        go_simp
        with_reducible rfl
      rotate_left
      · simp only [Act.put, List.setIfInBounds_toArray, List.set_cons_zero, List.set_cons_succ, i64_w, i32_w]
        rfl
      refine pure_ (i := 13) (N := some 28) (v := ?_) (a' := ?_) #[true, true, true, true, true, true, true, true, true, true, true, true, true, true, false, false, false] rfl rfl (any_of HT_.out (by kernel_rfl)) (fun _ _ _ h => h) (Or.inl ⟨by rfl, ?_⟩) ?_ ?_
      rotate_left
      · intro w'
        go_simp
        with_reducible rfl
      rotate_left
      · simp only [Act.put, List.setIfInBounds_toArray, List.set_cons_zero, List.set_cons_succ, i64_w, i32_w]
        rfl
      refine pure_ (i := 14) (N := some 6) (v := ?_) (a' := ?_) #[true, true, true, true, true, true, true, true, true, true, true, true, true, true, true, false, false] rfl rfl (any_of HT_.out (by kernel_rfl)) (fun _ _ _ h => h) (Or.inl ⟨by rfl, ?_⟩) ?_ ?_
      rotate_left
      · intro w'
        go_simp
        with_reducible rfl
      rotate_left
      · simp only [Act.put, List.setIfInBounds_toArray, List.set_cons_zero, List.set_cons_succ, i64_w, i32_w]
        rfl
      refine pure_ (i := 15) (N := some 7) (v := ?_) (a' := ?_) #[true, true, true, true, true, true, true, true, true, true, true, true, true, true, true, true, false] rfl rfl (any_of HT_.out (by kernel_rfl)) (fun _ _ _ h => h) (Or.inl ⟨by rfl, ?_⟩) ?_ ?_
      rotate_left
      · intro w'
        go_simp
        with_reducible rfl
      rotate_left
      · simp only [Act.put, List.setIfInBounds_toArray, List.set_cons_zero, List.set_cons_succ, i64_w, i32_w]
        rfl
      refine pure_ (i := 16) (N := some 8) (v := ?_) (a' := ?_) #[true, true, true, true, true, true, true, true, true, true, true, true, true, true, true, true, true] rfl rfl (any_of HT_.out (by kernel_rfl)) (fun _ _ _ h => h) (Or.inl ⟨by rfl, ?_⟩) ?_ ?_
      rotate_left
      · intro w'
        go_simp
        with_reducible rfl
      rotate_left
      · simp only [Act.put, List.setIfInBounds_toArray, List.set_cons_zero, List.set_cons_succ, i64_w, i32_w]
        rfl
      refine done_ (done_of HT_.out (by kernel_rfl)) ?_
      obtain ⟨HGz10, hgz10⟩ := HI0.out
      have hcz10_0 := cellS78_0 HGz10
      have hcz10_1 := cellS78_1 HGz10
      have hcz10_2 := cellS78_2 HGz10
      have hfz10_0 := blk_frozen HGz10 0
      have hfz10_1 := blk_frozen HGz10 1
      have hfz10_2 := blk_frozen HGz10 2
      clear HGz10 hgz10
      try go_wp2_with (first | (go_at_call 58; go_in) | ((try simp only [Exit.inBlock, Exit.then]); refine bodyPost_end (results_none rfl _ _ _) rfl ?_; simp only []; go_at_K))
      go_ret
      exact ⟨by first | rfl | (simp [errW_none, errW_some] <;> rfl) | (simp [*, errW_none, errW_some] <;> rfl), by repeat (first | (with_reducible first | exact HI0.out | apply IsS78.alloc | apply IsS78.drewN | apply IsS78.drew | apply IsS78.set_0 | apply IsS78.set_1 | apply IsS78.set_2) | exact HI0.out), by repeat (first | (with_reducible first | exact HB.out | apply below_alloc | apply pw_below_drewN | apply below_drew1 | refine below_set ?_ (IsS78.ge HI0.out)) | exact HB.out), by repeat (first | (with_reducible first | exact HK.out | apply KeepBut.set_ | apply keep_drewN | apply keep_drew | apply keep_alloc) | exact HK.out)⟩
  · rw [if_neg c2] at H
    have c2b0 : (s0_2 == 0) = false := beq_eq_false_iff_ne.mpr c2
    have c2b1 : (s0_2 != 0) = true := bne_iff_ne.mpr c2
    simp only [Option.some.injEq, Prod.mk.injEq] at H
    obtain ⟨rfl, rfl, rfl, rfl⟩ := H
    obtain ⟨HGz11, hgz11⟩ := HI0.out
    have hcz11_0 := cellS78_0 HGz11
    have hcz11_1 := cellS78_1 HGz11
    have hcz11_2 := cellS78_2 HGz11
    have hfz11_0 := blk_frozen HGz11 0
    have hfz11_1 := blk_frozen HGz11 1
    have hfz11_2 := blk_frozen HGz11 2
    clear HGz11 hgz11
    go_enter Tryd.func30, Tryd.ntmps30
    go_wp2_with (first | (go_at_call 58; go_in) | ((try simp only [Exit.inBlock, Exit.then]); refine bodyPost_end (results_none rfl _ _ _) rfl ?_; simp only []; go_at_K))
    go_ret
    exact ⟨by first | rfl | (simp [errW_none, errW_some] <;> rfl) | (simp [*, errW_none, errW_some] <;> rfl), by repeat (first | (with_reducible first | exact HI0.out | apply IsS78.alloc | apply IsS78.drewN | apply IsS78.drew | apply IsS78.set_0 | apply IsS78.set_1 | apply IsS78.set_2) | exact HI0.out), by repeat (first | (with_reducible first | exact HB.out | apply below_alloc | apply pw_below_drewN | apply below_drew1 | refine below_set ?_ (IsS78.ge HI0.out)) | exact HB.out), by repeat (first | (with_reducible first | exact HK.out | apply KeepBut.set_ | apply keep_drewN | apply keep_drew | apply keep_alloc) | exact HK.out)⟩
end Go.Proofs.YtndeikikeeeigaaDoor.Q
end
section
namespace Go.Proofs.YtndeikikeeeigaaDoor.Q
open Go.RowKit Go.Proofs.YtndeikikeeeigaaDoorW.PrintWords Go.Proofs.YtndeikikeeeigaaDoorW.PrintLast Go.Proofs.YtndeikikeeeigaaDoorW.PrintMore
attribute [local go_sem] max2_int min2_int max_two min_two max_three min_three max_four min_four
set_option linter.unusedVariables false
set_option linter.unusedSimpArgs false
def codec_Reader_Null_1.f (k : Nat) (a0 : ByteArray) (a1 : Int) : Option (Bool × Int × Bool) := (codec_kind.f k a0 a1).bind fun t348 => (some (true, wrap64 (a1 + 1), (t348 == 1)))
set_option maxHeartbeats 8000000 in
set_option maxRecDepth 100000 in
theorem codec_Reader_Null_1.calls (k : Nat) (a0 : ByteArray) (a1 : Int) (r1 : Bool) (r2 : Int) (r3 : Bool) (w : World) (hG : Glob w) (h : codec_Reader_Null_1.f k a0 a1 = some (r1, r2, r3)) :
    Calls Tryd.prog 65 #[.string a0, .int .i64 a1] w fun e w' => e = .returned (.tuple #[.bool r1, .int .i64 r2, .bool r3]) ∧ Drawn0 w w' := by
  have HG := Aside0.mk hG
  clear hG
  have H : ((codec_kind.f k a0 a1).bind fun t348 => (some (true, wrap64 (a1 + 1), (t348 == 1)))) = some (r1, r2, r3) := h
  clear h
  replace H := Option.bind_eq_some_iff.mp H
  obtain ⟨t348, A30, H⟩ := H
  replace H : (some (true, wrap64 (a1 + 1), (t348 == 1))) = some (r1, r2, r3) := H
  have A3 := Aside0.mk A30
  clear A30
  simp only [Option.some.injEq, Prod.mk.injEq] at H
  obtain ⟨rfl, rfl, rfl⟩ := H
  go_enter Tryd.func65, Tryd.ntmps65
  go_wp2_with (first | ((with_reducible refine gate_callee (f := 49) rfl ?_); refine goesL_ (some 11) rfl rfl Tryd.func49 (by kernel_rfl) rfl #[.string a0, .int .i64 a1] rfl (by (try simp only [List.map_toArray, List.map_cons, List.map_nil]); first | done | rfl | (simp only [List.length_drop, List.length_take]; rfl)) ?_; (with_reducible refine (codec_kind.calls k a0 a1 t348 _ ?side99  A3.out).mono ?_); (case side99 => first | exact HG.out | exact Glob.below HG.out (by repeat (first | (with_reducible first | exact HB.out | apply below_alloc | apply pw_below_drewN | apply below_drew1) | exact HB.out))); rintro e w' ⟨rfl, ⟨nd, rfl⟩⟩; refine ⟨_, rfl, ?_⟩))
  go_ret3
  exact ⟨by first | rfl | (simp; done) | (simp [*]; done), by repeat (first | exact Drawn0.refl _ | apply Drawn0.step)⟩
end Go.Proofs.YtndeikikeeeigaaDoor.Q
end
section
namespace Go.Proofs.YtndeikikeeeigaaDoor.Q
open Go.RowKit Go.Proofs.YtndeikikeeeigaaDoorW.PrintWords Go.Proofs.YtndeikikeeeigaaDoorW.PrintLast Go.Proofs.YtndeikikeeeigaaDoorW.PrintMore
attribute [local go_sem] max2_int min2_int max_two min_two max_three min_three max_four min_four
set_option linter.unusedVariables false
set_option linter.unusedSimpArgs false
def codec_Reader_Null.f (k : Nat) (s0_0 : ByteArray) (s0_1 : Int) (s0_2 : Int) : Option (ByteArray × Int × Int) := if s0_2 = 0 then ((codec_Reader_Null_1.f k s0_0 s0_1).bind fun bt349 => (if bt349.2.2 = true then (some (s0_0, bt349.2.1, s0_2)) else (some (s0_0, s0_1, 2)))) else (some (s0_0, s0_1, s0_2))
def codec_Reader_Null.T58004 : Bool × List (List Nat × List Nat) := (true, [([], []), ([], []), ([1], [1]), ([2], [2]), ([3], [3]), ([], []), ([5], [5]), ([6], [6]), ([7], [7]), ([0, 4, 8], [0, 4, 8]), ([9], [9]), ([10], [10]), ([10], [10]), ([10], [10]), ([11, 9, 0, 1, 2, 3, 4, 5, 6, 7, 8, 9, 10, 11], [11]), ([12, 14, 0, 1, 2, 3, 4, 5, 6, 7, 8, 9, 10, 11, 12, 14], [12]), ([13, 15, 0, 1, 2, 3, 4, 5, 6, 7, 8, 9, 10, 11, 12, 13, 14, 15], [13])])
def codec_Reader_Null.B58004 : List Nat := [0, 0, 2, 6, 14, 0, 32, 96, 224, 511, 1023, 2047, 2047, 2047, 4095, 24575, 65535]
theorem codec_Reader_Null.tab58004 : rtab .any (opsOf Tryd.f58 4) = codec_Reader_Null.T58004 := by kernel_rfl
theorem codec_Reader_Null.bits58004 : waitsOk codec_Reader_Null.T58004.2 codec_Reader_Null.B58004 = true := by kernel_rfl
set_option maxHeartbeats 8000000 in
set_option maxRecDepth 100000 in
theorem codec_Reader_Null.calls (k : Nat) (g : Nat) (s0_0 : ByteArray) (s0_1 : Int) (s0_2 : Int) (r1 : ByteArray) (r2 : Int) (r3 : Int) (w0 w : World) (hG : Glob w0) (hI : IsS78 w0 w g s0_0 s0_1 s0_2) (hB : Below w0.heap.size w0 w) (h : codec_Reader_Null.f k s0_0 s0_1 s0_2 = some (r1, r2, r3)) :
    Calls Tryd.prog 60 #[.pointer (some ⟨g, 0, none⟩)] w fun e w' => e = .returned (.tuple #[]) ∧ IsS78 w0 w' g r1 r2 r3 ∧ Below w0.heap.size w0 w' ∧ KeepBut w w' g none := by
  have hmf_ : ∀ (fn : Fn) (first cap : Array Value) (w : World), (Instr.makeFunc fn first cap).run Tryd.prog w = .ok (.func fn first cap) w := fun _ _ _ _ => rfl
  have HG := Aside0.mk hG
  clear hG
  have HI0 := Aside0.mk hI
  have HK := Aside0.mk (KeepBut.refl w g none)
  have HL := Aside0.mk hB.size
  clear hI
  have HW0 := Aside0.mk hB.size
  have HB := Aside0.mk hB
  clear hB
  have H : (if s0_2 = 0 then ((codec_Reader_Null_1.f k s0_0 s0_1).bind fun bt349 => (if bt349.2.2 = true then (some (s0_0, bt349.2.1, s0_2)) else (some (s0_0, s0_1, 2)))) else (some (s0_0, s0_1, s0_2))) = some (r1, r2, r3) := h
  clear h
  by_cases c2 : s0_2 = 0
  · rw [if_pos c2] at H
    have c2b0 : (s0_2 == 0) = true := beq_iff_eq.mpr c2
    have c2b1 : (s0_2 != 0) = false := bne_eq_false_iff_eq.mpr c2
    clear c2
    replace H := Option.bind_eq_some_iff.mp H
    obtain ⟨⟨t349, t350, t351⟩, A30, H⟩ := H
    replace H : (if t351 = true then (some (s0_0, t350, s0_2)) else (some (s0_0, s0_1, 2))) = some (r1, r2, r3) := H
    have A3 := Aside0.mk A30
    clear A30
    by_cases c4 : t351 = true
    · subst c4
      have H1 : (some (s0_0, t350, s0_2)) = some (r1, r2, r3) := by rw [if_pos rfl] at H; exact H
      clear H
      have H := H1
      clear H1
      simp only [Option.some.injEq, Prod.mk.injEq] at H
      obtain ⟨rfl, rfl, rfl⟩ := H
      obtain ⟨HGz5, hgz5⟩ := HI0.out
      have hcz5_0 := cellS78_0 HGz5
      have hcz5_1 := cellS78_1 HGz5
      have hcz5_2 := cellS78_2 HGz5
      have hfz5_0 := blk_frozen HGz5 0
      have hfz5_1 := blk_frozen HGz5 1
      have hfz5_2 := blk_frozen HGz5 2
      clear HGz5 hgz5
      go_enter Tryd.func60, Tryd.ntmps60
      try go_wp2_with (first | (go_at_call 58; go_in) | ((try simp only [Exit.inBlock, Exit.then]); refine bodyPost_end (results_none rfl _ _ _) rfl ?_; simp only []; go_at_K))
      have n0_ := Aside0.mk (IsS78.drew HI0.out)
      have n1_ := Aside0.mk (keep_drew HK.out)
      have n2_ := Aside0.mk (below_drew1 HB.out)
      clear HI0
      clear HK
      clear HB
      have HI0 := n0_
      have HK := n1_
      have HB := n2_
      clear n0_ n1_ n2_
      refine start_ (n := 17) (S := fun w' => w'.cell? ⟨g, 0, none⟩ = some (.string s0_0) ∧ w'.cell? ⟨g, 1, none⟩ = some (.int .i64 s0_1) ∧ w'.cell? ⟨g, 2, none⟩ = some (.int .i64 s0_2)) (ds := []) #[false, false, false, false, false, false, false, false, false, false, false, false, false, false, false, false, false] (by kernel_rfl) rfl rfl ⟨(blk_cell (Aside0.mk HI0.out.1).out 0).trans rfl, (blk_cell (Aside0.mk HI0.out.1).out 1).trans rfl, (blk_cell (Aside0.mk HI0.out.1).out 2).trans rfl⟩ (fun hHeld => ?_); refine with_tabW codec_Reader_Null.tab58004 codec_Reader_Null.bits58004 (fun HT_ HW_ => ?_)
      generalize w.drew = w6 at HI0 HK HB hHeld ⊢
      refine pure_ (i := 0) (N := some 16) (v := ?_) (a' := ?_) #[true, false, false, false, false, false, false, false, false, false, false, false, false, false, false, false, false] rfl rfl (any_of HT_.out (by kernel_rfl)) (fun _ _ _ h => h) (Or.inl ⟨by rfl, ?_⟩) ?_ ?_
      rotate_left
      · intro w'
        go_simp
        with_reducible rfl
      rotate_left
      · simp only [Act.put, List.setIfInBounds_toArray, List.set_cons_zero, List.set_cons_succ, i64_w, i32_w]
        rfl
      refine pure_ (i := 1) (N := some 17) (v := ?_) (a' := ?_) #[true, true, false, false, false, false, false, false, false, false, false, false, false, false, false, false, false] rfl rfl (any_of HT_.out (by kernel_rfl)) (fun _ _ _ h => h) (Or.inl ⟨by rfl, ?_⟩) ?_ ?_
      rotate_left
      · intro w'
        go_simp
        with_reducible rfl
      rotate_left
      · simp only [Act.put, List.setIfInBounds_toArray, List.set_cons_zero, List.set_cons_succ, i64_w, i32_w]
        rfl
      refine pure_ (i := 2) (N := some 18) (v := ?_) (a' := ?_) #[true, true, true, false, false, false, false, false, false, false, false, false, false, false, false, false, false] rfl rfl (any_of HT_.out (by kernel_rfl)) (fun _ _ _ h => h) (Or.inl ⟨by rfl, ?_⟩) ?_ ?_
      rotate_left
      · intro w'
        go_simp
        with_reducible rfl
      rotate_left
      · simp only [Act.put, List.setIfInBounds_toArray, List.set_cons_zero, List.set_cons_succ, i64_w, i32_w]
        rfl
      refine pure_ (i := 3) (N := some 19) (v := ?_) (a' := ?_) #[true, true, true, true, false, false, false, false, false, false, false, false, false, false, false, false, false] rfl rfl (any_of HT_.out (by kernel_rfl)) (fun _ _ _ h => h) (Or.inl ⟨by rfl, ?_⟩) ?_ ?_
      rotate_left
      · intro w'
        go_simp
        with_reducible rfl
      rotate_left
      · simp only [Act.put, List.setIfInBounds_toArray, List.set_cons_zero, List.set_cons_succ, i64_w, i32_w]
        rfl
      refine pure_ (i := 5) (N := some 21) (v := ?_) (a' := ?_) #[true, true, true, true, false, true, false, false, false, false, false, false, false, false, false, false, false] rfl rfl (any_of HT_.out (by kernel_rfl)) (fun _ _ _ h => h) (Or.inl ⟨by rfl, ?_⟩) ?_ ?_
      rotate_left
      · intro w'
        go_simp
        with_reducible rfl
      rotate_left
      · simp only [Act.put, List.setIfInBounds_toArray, List.set_cons_zero, List.set_cons_succ, i64_w, i32_w]
        rfl
      refine pure_ (i := 6) (N := some 22) (v := ?_) (a' := ?_) #[true, true, true, true, false, true, true, false, false, false, false, false, false, false, false, false, false] rfl rfl (any_of HT_.out (by kernel_rfl)) (fun _ _ _ h => h) (Or.inl ⟨by rfl, ?_⟩) ?_ ?_
      rotate_left
      · intro w'
        go_simp
        with_reducible rfl
      rotate_left
      · simp only [Act.put, List.setIfInBounds_toArray, List.set_cons_zero, List.set_cons_succ, i64_w, i32_w]
        rfl
      refine pure_ (i := 7) (N := some 23) (v := ?_) (a' := ?_) #[true, true, true, true, false, true, true, true, false, false, false, false, false, false, false, false, false] rfl rfl (any_of HT_.out (by kernel_rfl)) (fun _ _ _ h => h) (Or.inl ⟨by rfl, ?_⟩) ?_ ?_
      rotate_left
      · intro w'
        go_simp
        with_reducible rfl
      rotate_left
      · simp only [Act.put, List.setIfInBounds_toArray, List.set_cons_zero, List.set_cons_succ, i64_w, i32_w]
        rfl
      refine take_ (i := 4) (N := some 20) (v := ?_) (a' := ?_) #[true, true, true, true, true, true, true, true, false, false, false, false, false, false, false, false, false] rfl rfl (take_ofW HT_.out HW_.out (by kernel_rfl)) (fun _ _ _ h => h) (Or.inl ⟨by rfl, ?_⟩) hHeld ?_ ?_
      rotate_left
      · rintro w' ⟨s0, s1, s2⟩
        go_simp
        with_reducible rfl
      rotate_left
      · simp only [Act.put, List.setIfInBounds_toArray, List.set_cons_zero, List.set_cons_succ, i64_w, i32_w]
        rfl
      refine take_ (i := 8) (N := some 24) (v := ?_) (a' := ?_) #[true, true, true, true, true, true, true, true, true, false, false, false, false, false, false, false, false] rfl rfl (take_ofW HT_.out HW_.out (by kernel_rfl)) (fun _ _ _ h => h) (Or.inl ⟨by rfl, ?_⟩) hHeld ?_ ?_
      rotate_left
      · rintro w' ⟨s0, s1, s2⟩
        go_simp
        with_reducible rfl
      rotate_left
      · simp only [Act.put, List.setIfInBounds_toArray, List.set_cons_zero, List.set_cons_succ, i64_w, i32_w]
        rfl
      refine one_ (i := 9) (N := some 25) #[true, true, true, true, true, true, true, true, true, true, false, false, false, false, false, false, false] rfl rfl (one_of HT_.out (by kernel_rfl)) (by decide) (fun K hK => ?_)
      refine goesT_ Tryd.func65 (by kernel_rfl) rfl #[.string s0_0, .int .i64 s0_1] (by rfl) rfl rfl rfl (by (try simp only [List.map_toArray, List.map_cons, List.map_nil]); first | done | rfl | (simp only [List.length_drop, List.length_take]; rfl)) ?_
      with_reducible refine (codec_Reader_Null_1.calls k s0_0 s0_1 t349 t350 true _ ?side99  A3.out).mono ?_
      (case side99 => first | exact HG.out | exact Glob.below HG.out (by repeat (first | (with_reducible first | exact HB.out | apply below_alloc | apply pw_below_drewN | apply below_drew1 | refine below_set ?_ (IsS78.ge HI0.out)) | exact HB.out)))
      rintro e w' ⟨rfl, ⟨nd, rfl⟩⟩
      refine ⟨_, rfl, ?_⟩
      refine hK.out _ _ ⟨(blk_cell (Aside0.mk HI0.out.1).out 0).trans rfl, (blk_cell (Aside0.mk HI0.out.1).out 1).trans rfl, (blk_cell (Aside0.mk HI0.out.1).out 2).trans rfl⟩ (fun hHeld => ?_)
      clear hK K
      refine norm_ (a' := ?_) ?_ ?_
      rotate_left
      · show Act.put _ (some 25) _ = _
        simp only [Act.put, List.setIfInBounds_toArray, List.set_cons_zero, List.set_cons_succ, i64_w, i32_w]
        rfl
      refine pure_ (i := 10) (N := some 15) (v := ?_) (a' := ?_) #[true, true, true, true, true, true, true, true, true, true, true, false, false, false, false, false, false] rfl rfl (any_of HT_.out (by kernel_rfl)) (fun _ _ _ h => h) (Or.inl ⟨by rfl, ?_⟩) ?_ ?_
      rotate_left
      · intro w'
        go_simp
        with_reducible rfl
      rotate_left
      · simp only [Act.put, List.setIfInBounds_toArray, List.set_cons_zero, List.set_cons_succ, i64_w, i32_w]
        rfl
      refine pure_ (i := 11) (N := some 26) (v := ?_) (a' := ?_) #[true, true, true, true, true, true, true, true, true, true, true, true, false, false, false, false, false] rfl rfl (any_of HT_.out (by kernel_rfl)) (fun _ _ _ h => h) (Or.inl ⟨by rfl, ?_⟩) ?_ ?_
      rotate_left
      · intro w'
        go_simp
        with_reducible rfl
      rotate_left
      · simp only [Act.put, List.setIfInBounds_toArray, List.set_cons_zero, List.set_cons_succ, i64_w, i32_w]
        rfl
      refine pure_ (i := 12) (N := some 27) (v := ?_) (a' := ?_) #[true, true, true, true, true, true, true, true, true, true, true, true, true, false, false, false, false] rfl rfl (any_of HT_.out (by kernel_rfl)) (fun _ _ _ h => h) (Or.inl ⟨by rfl, ?_⟩) ?_ ?_
      rotate_left
      · intro w'
        go_simp
        with_reducible rfl
      rotate_left
      · simp only [Act.put, List.setIfInBounds_toArray, List.set_cons_zero, List.set_cons_succ, i64_w, i32_w]
        rfl
      refine pure_ (i := 13) (N := some 28) (v := ?_) (a' := ?_) #[true, true, true, true, true, true, true, true, true, true, true, true, true, true, false, false, false] rfl rfl (any_of HT_.out (by kernel_rfl)) (fun _ _ _ h => h) (Or.inl ⟨by rfl, ?_⟩) ?_ ?_
      rotate_left
      · intro w'
        go_simp
        with_reducible rfl
      rotate_left
      · simp only [Act.put, List.setIfInBounds_toArray, List.set_cons_zero, List.set_cons_succ, i64_w, i32_w]
        rfl
      refine pure_ (i := 14) (N := some 6) (v := ?_) (a' := ?_) #[true, true, true, true, true, true, true, true, true, true, true, true, true, true, true, false, false] rfl rfl (any_of HT_.out (by kernel_rfl)) (fun _ _ _ h => h) (Or.inl ⟨by rfl, ?_⟩) ?_ ?_
      rotate_left
      · intro w'
        go_simp
        with_reducible rfl
      rotate_left
      · simp only [Act.put, List.setIfInBounds_toArray, List.set_cons_zero, List.set_cons_succ, i64_w, i32_w]
        rfl
      refine pure_ (i := 15) (N := some 7) (v := ?_) (a' := ?_) #[true, true, true, true, true, true, true, true, true, true, true, true, true, true, true, true, false] rfl rfl (any_of HT_.out (by kernel_rfl)) (fun _ _ _ h => h) (Or.inl ⟨by rfl, ?_⟩) ?_ ?_
      rotate_left
      · intro w'
        go_simp
        with_reducible rfl
      rotate_left
      · simp only [Act.put, List.setIfInBounds_toArray, List.set_cons_zero, List.set_cons_succ, i64_w, i32_w]
        rfl
      refine pure_ (i := 16) (N := some 8) (v := ?_) (a' := ?_) #[true, true, true, true, true, true, true, true, true, true, true, true, true, true, true, true, true] rfl rfl (any_of HT_.out (by kernel_rfl)) (fun _ _ _ h => h) (Or.inl ⟨by rfl, ?_⟩) ?_ ?_
      rotate_left
      · intro w'
        go_simp
        with_reducible rfl
      rotate_left
      · simp only [Act.put, List.setIfInBounds_toArray, List.set_cons_zero, List.set_cons_succ, i64_w, i32_w]
        rfl
      refine done_ (done_of HT_.out (by kernel_rfl)) ?_
      obtain ⟨HGz7, hgz7⟩ := HI0.out
      have hcz7_0 := cellS78_0 HGz7
      have hcz7_1 := cellS78_1 HGz7
      have hcz7_2 := cellS78_2 HGz7
      have hfz7_0 := blk_frozen HGz7 0
      have hfz7_1 := blk_frozen HGz7 1
      have hfz7_2 := blk_frozen HGz7 2
      clear HGz7 hgz7
      try go_wp2_with (first | (go_at_call 58; go_in) | ((try simp only [Exit.inBlock, Exit.then]); refine bodyPost_end (results_none rfl _ _ _) rfl ?_; simp only []; go_at_K))
      first | go_end0 | ((try simp only [Exit.inBlock, Exit.then]); refine bodyPost_ret (results_none rfl _ _ _) rfl ?_)
      exact ⟨by first | rfl | (simp [errW_none, errW_some] <;> rfl) | (simp [*, errW_none, errW_some] <;> rfl), by repeat (first | (with_reducible first | exact HI0.out | apply IsS78.alloc | apply IsS78.drewN | apply IsS78.drew | apply IsS78.set_0 | apply IsS78.set_1 | apply IsS78.set_2) | exact HI0.out), by repeat (first | (with_reducible first | exact HB.out | apply below_alloc | apply pw_below_drewN | apply below_drew1 | refine below_set ?_ (IsS78.ge HI0.out)) | exact HB.out), by repeat (first | (with_reducible first | exact HK.out | apply KeepBut.set_ | apply keep_drewN | apply keep_drew | apply keep_alloc) | exact HK.out)⟩
    · replace c4 := Bool.eq_false_iff.mpr c4
      subst c4
      have H1 : (some (s0_0, s0_1, 2)) = some (r1, r2, r3) := by rw [if_neg (show ¬ (false = true) by decide)] at H; exact H
      clear H
      have H := H1
      clear H1
      simp only [Option.some.injEq, Prod.mk.injEq] at H
      obtain ⟨rfl, rfl, rfl⟩ := H
      obtain ⟨HGz8, hgz8⟩ := HI0.out
      have hcz8_0 := cellS78_0 HGz8
      have hcz8_1 := cellS78_1 HGz8
      have hcz8_2 := cellS78_2 HGz8
      have hfz8_0 := blk_frozen HGz8 0
      have hfz8_1 := blk_frozen HGz8 1
      have hfz8_2 := blk_frozen HGz8 2
      clear HGz8 hgz8
      go_enter Tryd.func60, Tryd.ntmps60
      try go_wp2_with (first | (go_at_call 58; go_in) | ((try simp only [Exit.inBlock, Exit.then]); refine bodyPost_end (results_none rfl _ _ _) rfl ?_; simp only []; go_at_K))
      have n0_ := Aside0.mk (IsS78.drew HI0.out)
      have n1_ := Aside0.mk (keep_drew HK.out)
      have n2_ := Aside0.mk (below_drew1 HB.out)
      clear HI0
      clear HK
      clear HB
      have HI0 := n0_
      have HK := n1_
      have HB := n2_
      clear n0_ n1_ n2_
      refine start_ (n := 17) (S := fun w' => w'.cell? ⟨g, 0, none⟩ = some (.string s0_0) ∧ w'.cell? ⟨g, 1, none⟩ = some (.int .i64 s0_1) ∧ w'.cell? ⟨g, 2, none⟩ = some (.int .i64 s0_2)) (ds := []) #[false, false, false, false, false, false, false, false, false, false, false, false, false, false, false, false, false] (by kernel_rfl) rfl rfl ⟨(blk_cell (Aside0.mk HI0.out.1).out 0).trans rfl, (blk_cell (Aside0.mk HI0.out.1).out 1).trans rfl, (blk_cell (Aside0.mk HI0.out.1).out 2).trans rfl⟩ (fun hHeld => ?_); refine with_tabW codec_Reader_Null.tab58004 codec_Reader_Null.bits58004 (fun HT_ HW_ => ?_)
      generalize w.drew = w9 at HI0 HK HB hHeld ⊢
      refine pure_ (i := 0) (N := some 16) (v := ?_) (a' := ?_) #[true, false, false, false, false, false, false, false, false, false, false, false, false, false, false, false, false] rfl rfl (any_of HT_.out (by kernel_rfl)) (fun _ _ _ h => h) (Or.inl ⟨by rfl, ?_⟩) ?_ ?_
      rotate_left
      · intro w'
        go_simp
        with_reducible rfl
      rotate_left
      · simp only [Act.put, List.setIfInBounds_toArray, List.set_cons_zero, List.set_cons_succ, i64_w, i32_w]
        rfl
      refine pure_ (i := 1) (N := some 17) (v := ?_) (a' := ?_) #[true, true, false, false, false, false, false, false, false, false, false, false, false, false, false, false, false] rfl rfl (any_of HT_.out (by kernel_rfl)) (fun _ _ _ h => h) (Or.inl ⟨by rfl, ?_⟩) ?_ ?_
      rotate_left
      · intro w'
        go_simp
        with_reducible rfl
      rotate_left
      · simp only [Act.put, List.setIfInBounds_toArray, List.set_cons_zero, List.set_cons_succ, i64_w, i32_w]
        rfl
      refine pure_ (i := 2) (N := some 18) (v := ?_) (a' := ?_) #[true, true, true, false, false, false, false, false, false, false, false, false, false, false, false, false, false] rfl rfl (any_of HT_.out (by kernel_rfl)) (fun _ _ _ h => h) (Or.inl ⟨by rfl, ?_⟩) ?_ ?_
      rotate_left
      · intro w'
        go_simp
        with_reducible rfl
      rotate_left
      · simp only [Act.put, List.setIfInBounds_toArray, List.set_cons_zero, List.set_cons_succ, i64_w, i32_w]
        rfl
      refine pure_ (i := 3) (N := some 19) (v := ?_) (a' := ?_) #[true, true, true, true, false, false, false, false, false, false, false, false, false, false, false, false, false] rfl rfl (any_of HT_.out (by kernel_rfl)) (fun _ _ _ h => h) (Or.inl ⟨by rfl, ?_⟩) ?_ ?_
      rotate_left
      · intro w'
        go_simp
        with_reducible rfl
      rotate_left
      · simp only [Act.put, List.setIfInBounds_toArray, List.set_cons_zero, List.set_cons_succ, i64_w, i32_w]
        rfl
      refine pure_ (i := 5) (N := some 21) (v := ?_) (a' := ?_) #[true, true, true, true, false, true, false, false, false, false, false, false, false, false, false, false, false] rfl rfl (any_of HT_.out (by kernel_rfl)) (fun _ _ _ h => h) (Or.inl ⟨by rfl, ?_⟩) ?_ ?_
      rotate_left
      · intro w'
        go_simp
        with_reducible rfl
      rotate_left
      · simp only [Act.put, List.setIfInBounds_toArray, List.set_cons_zero, List.set_cons_succ, i64_w, i32_w]
        rfl
      refine pure_ (i := 6) (N := some 22) (v := ?_) (a' := ?_) #[true, true, true, true, false, true, true, false, false, false, false, false, false, false, false, false, false] rfl rfl (any_of HT_.out (by kernel_rfl)) (fun _ _ _ h => h) (Or.inl ⟨by rfl, ?_⟩) ?_ ?_
      rotate_left
      · intro w'
        go_simp
        with_reducible rfl
      rotate_left
      · simp only [Act.put, List.setIfInBounds_toArray, List.set_cons_zero, List.set_cons_succ, i64_w, i32_w]
        rfl
      refine pure_ (i := 7) (N := some 23) (v := ?_) (a' := ?_) #[true, true, true, true, false, true, true, true, false, false, false, false, false, false, false, false, false] rfl rfl (any_of HT_.out (by kernel_rfl)) (fun _ _ _ h => h) (Or.inl ⟨by rfl, ?_⟩) ?_ ?_
      rotate_left
      · intro w'
        go_simp
        with_reducible rfl
      rotate_left
      · simp only [Act.put, List.setIfInBounds_toArray, List.set_cons_zero, List.set_cons_succ, i64_w, i32_w]
        rfl
      refine take_ (i := 4) (N := some 20) (v := ?_) (a' := ?_) #[true, true, true, true, true, true, true, true, false, false, false, false, false, false, false, false, false] rfl rfl (take_ofW HT_.out HW_.out (by kernel_rfl)) (fun _ _ _ h => h) (Or.inl ⟨by rfl, ?_⟩) hHeld ?_ ?_
      rotate_left
      · rintro w' ⟨s0, s1, s2⟩
        go_simp
        with_reducible rfl
      rotate_left
      · simp only [Act.put, List.setIfInBounds_toArray, List.set_cons_zero, List.set_cons_succ, i64_w, i32_w]
        rfl
      refine take_ (i := 8) (N := some 24) (v := ?_) (a' := ?_) #[true, true, true, true, true, true, true, true, true, false, false, false, false, false, false, false, false] rfl rfl (take_ofW HT_.out HW_.out (by kernel_rfl)) (fun _ _ _ h => h) (Or.inl ⟨by rfl, ?_⟩) hHeld ?_ ?_
      rotate_left
      · rintro w' ⟨s0, s1, s2⟩
        go_simp
        with_reducible rfl
      rotate_left
      · simp only [Act.put, List.setIfInBounds_toArray, List.set_cons_zero, List.set_cons_succ, i64_w, i32_w]
        rfl
      refine one_ (i := 9) (N := some 25) #[true, true, true, true, true, true, true, true, true, true, false, false, false, false, false, false, false] rfl rfl (one_of HT_.out (by kernel_rfl)) (by decide) (fun K hK => ?_)
      refine goesT_ Tryd.func65 (by kernel_rfl) rfl #[.string s0_0, .int .i64 s0_1] (by rfl) rfl rfl rfl (by (try simp only [List.map_toArray, List.map_cons, List.map_nil]); first | done | rfl | (simp only [List.length_drop, List.length_take]; rfl)) ?_
      with_reducible refine (codec_Reader_Null_1.calls k s0_0 s0_1 t349 t350 false _ ?side99  A3.out).mono ?_
      (case side99 => first | exact HG.out | exact Glob.below HG.out (by repeat (first | (with_reducible first | exact HB.out | apply below_alloc | apply pw_below_drewN | apply below_drew1 | refine below_set ?_ (IsS78.ge HI0.out)) | exact HB.out)))
      rintro e w' ⟨rfl, ⟨nd, rfl⟩⟩
      refine ⟨_, rfl, ?_⟩
      refine hK.out _ _ ⟨(blk_cell (Aside0.mk HI0.out.1).out 0).trans rfl, (blk_cell (Aside0.mk HI0.out.1).out 1).trans rfl, (blk_cell (Aside0.mk HI0.out.1).out 2).trans rfl⟩ (fun hHeld => ?_)
      clear hK K
      refine norm_ (a' := ?_) ?_ ?_
      rotate_left
      · show Act.put _ (some 25) _ = _
        simp only [Act.put, List.setIfInBounds_toArray, List.set_cons_zero, List.set_cons_succ, i64_w, i32_w]
        rfl
      refine pure_ (i := 10) (N := some 15) (v := ?_) (a' := ?_) #[true, true, true, true, true, true, true, true, true, true, true, false, false, false, false, false, false] rfl rfl (any_of HT_.out (by kernel_rfl)) (fun _ _ _ h => h) (Or.inl ⟨by rfl, ?_⟩) ?_ ?_
      rotate_left
      · intro w'
        go_simp
        with_reducible rfl
      rotate_left
      · simp only [Act.put, List.setIfInBounds_toArray, List.set_cons_zero, List.set_cons_succ, i64_w, i32_w]
        rfl
      refine pure_ (i := 11) (N := some 26) (v := ?_) (a' := ?_) #[true, true, true, true, true, true, true, true, true, true, true, true, false, false, false, false, false] rfl rfl (any_of HT_.out (by kernel_rfl)) (fun _ _ _ h => h) (Or.inl ⟨by rfl, ?_⟩) ?_ ?_
      rotate_left
      · intro w'
        go_simp
        with_reducible rfl
      rotate_left
      · simp only [Act.put, List.setIfInBounds_toArray, List.set_cons_zero, List.set_cons_succ, i64_w, i32_w]
        rfl
      refine pure_ (i := 12) (N := some 27) (v := ?_) (a' := ?_) #[true, true, true, true, true, true, true, true, true, true, true, true, true, false, false, false, false] rfl rfl (any_of HT_.out (by kernel_rfl)) (fun _ _ _ h => h) (Or.inl ⟨by rfl, ?_⟩) ?_ ?_
      rotate_left
      · intro w'
        go_simp
        with_reducible rfl
      rotate_left
      · simp only [Act.put, List.setIfInBounds_toArray, List.set_cons_zero, List.set_cons_succ, i64_w, i32_w]
        rfl
      refine pure_ (i := 13) (N := some 28) (v := ?_) (a' := ?_) #[true, true, true, true, true, true, true, true, true, true, true, true, true, true, false, false, false] rfl rfl (any_of HT_.out (by kernel_rfl)) (fun _ _ _ h => h) (Or.inl ⟨by rfl, ?_⟩) ?_ ?_
      rotate_left
      · intro w'
        go_simp
        with_reducible rfl
      rotate_left
      · simp only [Act.put, List.setIfInBounds_toArray, List.set_cons_zero, List.set_cons_succ, i64_w, i32_w]
        rfl
      refine pure_ (i := 14) (N := some 6) (v := ?_) (a' := ?_) #[true, true, true, true, true, true, true, true, true, true, true, true, true, true, true, false, false] rfl rfl (any_of HT_.out (by kernel_rfl)) (fun _ _ _ h => h) (Or.inl ⟨by rfl, ?_⟩) ?_ ?_
      rotate_left
      · intro w'
        go_simp
        with_reducible rfl
      rotate_left
      · simp only [Act.put, List.setIfInBounds_toArray, List.set_cons_zero, List.set_cons_succ, i64_w, i32_w]
        rfl
      refine pure_ (i := 15) (N := some 7) (v := ?_) (a' := ?_) #[true, true, true, true, true, true, true, true, true, true, true, true, true, true, true, true, false] rfl rfl (any_of HT_.out (by kernel_rfl)) (fun _ _ _ h => h) (Or.inl ⟨by rfl, ?_⟩) ?_ ?_
      rotate_left
      · intro w'
        go_simp
        with_reducible rfl
      rotate_left
      · simp only [Act.put, List.setIfInBounds_toArray, List.set_cons_zero, List.set_cons_succ, i64_w, i32_w]
        rfl
      refine pure_ (i := 16) (N := some 8) (v := ?_) (a' := ?_) #[true, true, true, true, true, true, true, true, true, true, true, true, true, true, true, true, true] rfl rfl (any_of HT_.out (by kernel_rfl)) (fun _ _ _ h => h) (Or.inl ⟨by rfl, ?_⟩) ?_ ?_
      rotate_left
      · intro w'
        go_simp
        with_reducible rfl
      rotate_left
      · simp only [Act.put, List.setIfInBounds_toArray, List.set_cons_zero, List.set_cons_succ, i64_w, i32_w]
        rfl
      refine done_ (done_of HT_.out (by kernel_rfl)) ?_
      obtain ⟨HGz10, hgz10⟩ := HI0.out
      have hcz10_0 := cellS78_0 HGz10
      have hcz10_1 := cellS78_1 HGz10
      have hcz10_2 := cellS78_2 HGz10
      have hfz10_0 := blk_frozen HGz10 0
      have hfz10_1 := blk_frozen HGz10 1
      have hfz10_2 := blk_frozen HGz10 2
      clear HGz10 hgz10
      try go_wp2_with (first | (go_at_call 58; go_in) | ((try simp only [Exit.inBlock, Exit.then]); refine bodyPost_end (results_none rfl _ _ _) rfl ?_; simp only []; go_at_K))
      first | go_end0 | ((try simp only [Exit.inBlock, Exit.then]); refine bodyPost_ret (results_none rfl _ _ _) rfl ?_)
      exact ⟨by first | rfl | (simp [errW_none, errW_some] <;> rfl) | (simp [*, errW_none, errW_some] <;> rfl), by repeat (first | (with_reducible first | exact HI0.out | apply IsS78.alloc | apply IsS78.drewN | apply IsS78.drew | apply IsS78.set_0 | apply IsS78.set_1 | apply IsS78.set_2) | exact HI0.out), by repeat (first | (with_reducible first | exact HB.out | apply below_alloc | apply pw_below_drewN | apply below_drew1 | refine below_set ?_ (IsS78.ge HI0.out)) | exact HB.out), by repeat (first | (with_reducible first | exact HK.out | apply KeepBut.set_ | apply keep_drewN | apply keep_drew | apply keep_alloc) | exact HK.out)⟩
  · rw [if_neg c2] at H
    have c2b0 : (s0_2 == 0) = false := beq_eq_false_iff_ne.mpr c2
    have c2b1 : (s0_2 != 0) = true := bne_iff_ne.mpr c2
    simp only [Option.some.injEq, Prod.mk.injEq] at H
    obtain ⟨rfl, rfl, rfl⟩ := H
    obtain ⟨HGz11, hgz11⟩ := HI0.out
    have hcz11_0 := cellS78_0 HGz11
    have hcz11_1 := cellS78_1 HGz11
    have hcz11_2 := cellS78_2 HGz11
    have hfz11_0 := blk_frozen HGz11 0
    have hfz11_1 := blk_frozen HGz11 1
    have hfz11_2 := blk_frozen HGz11 2
    clear HGz11 hgz11
    go_enter Tryd.func60, Tryd.ntmps60
    go_wp2_with (first | (go_at_call 58; go_in) | ((try simp only [Exit.inBlock, Exit.then]); refine bodyPost_end (results_none rfl _ _ _) rfl ?_; simp only []; go_at_K))
    first | go_end0 | ((try simp only [Exit.inBlock, Exit.then]); refine bodyPost_ret (results_none rfl _ _ _) rfl ?_)
    exact ⟨by first | rfl | (simp [errW_none, errW_some] <;> rfl) | (simp [*, errW_none, errW_some] <;> rfl), by repeat (first | (with_reducible first | exact HI0.out | apply IsS78.alloc | apply IsS78.drewN | apply IsS78.drew | apply IsS78.set_0 | apply IsS78.set_1 | apply IsS78.set_2) | exact HI0.out), by repeat (first | (with_reducible first | exact HB.out | apply below_alloc | apply pw_below_drewN | apply below_drew1 | refine below_set ?_ (IsS78.ge HI0.out)) | exact HB.out), by repeat (first | (with_reducible first | exact HK.out | apply KeepBut.set_ | apply keep_drewN | apply keep_drew | apply keep_alloc) | exact HK.out)⟩
end Go.Proofs.YtndeikikeeeigaaDoor.Q
end
section
namespace Go.Proofs.YtndeikikeeeigaaDoor.Pure
open Go.RowKit Go.Proofs.YtndeikikeeeigaaDoor.Q Go.Proofs.YtndeikikeeeigaaDoorW.PrintWords Go.Proofs.YtndeikikeeeigaaDoorW.PrintLast Go.Proofs.YtndeikikeeeigaaDoorW.PrintMore
set_option linter.unusedVariables false
theorem rd_kind (k : Nat) (s : ByteArray) (p : Int) : codec_Reader_Kind.f (k + 3) s p 0 = some (kindS s p, s, p, 0) := by
  unfold codec_Reader_Kind.f
  rw [if_pos rfl, kind_eq, Option.bind_some]
theorem rd_null (k : Nat) (s : ByteArray) (p : Int) (h0 : 0 ≤ p) (h1 : p ≤ 140737488355327) : codec_Reader_Null.f (k + 3) s p 0 = some (if kindS s p = 1 then (s, p + 1, 0) else (s, p, 2)) := by
  unfold codec_Reader_Null.f codec_Reader_Null_1.f
  rw [if_pos rfl, kind_eq, Option.bind_some, Option.bind_some, w64 (by omega) (by omega)]
  by_cases c : kindS s p = 1
  · rw [if_pos c, if_pos (by simpa using c)]
  · rw [if_neg c, if_neg (by simpa using c)]
theorem rd_bool (k : Nat) (s : ByteArray) (p : Int) (h0 : 0 ≤ p) (h1 : p ≤ 140737488355327) : codec_Reader_Bool.f (k + 3) s p 0 = some (if kindS s p = 2 then (bt s p == 2, s, p + 1, 0) else (false, s, p, 2)) := by
  unfold codec_Reader_Bool.f codec_Reader_Bool_1.f
  rw [if_pos rfl, kind_eq, Option.bind_some, w64 (by omega) (by omega)]
  by_cases c : kindS s p = 2
  · obtain ⟨a, b, _⟩ := kindS_in (s := s) (p := p) (by omega)
    rw [if_pos c, if_pos c, if_pos a, if_pos b, Option.bind_some, if_pos rfl]
  · rw [if_neg c, if_neg c, Option.bind_some, if_neg Bool.false_ne_true]
theorem rd_end (s : ByteArray) (p : Int) (h1 : p ≤ (s.size : Int)) : codec_Reader_End.f s p 0 = some (if p < (s.size : Int) then 2 else 0, s, p, 0) := by
  unfold codec_Reader_End.f
  rw [if_pos rfl]
  by_cases c : p < (s.size : Int)
  · rw [if_pos c, if_neg (by omega)]
  · rw [if_neg c, if_pos (by omega)]
def rdU (s : ByteArray) (p : Int) : Int × ByteArray × Int × Int := match uS s p with | some (v, e) => (v, s, e, 0) | none => (0, s, p, 2)
def rdS (s : ByteArray) (p : Int) : Int × ByteArray × Int × Int := match sS s p with | some (v, e) => (v, s, e, 0) | none => (0, s, p, 2)
def rdT (s : ByteArray) (p : Int) : ByteArray × ByteArray × Int × Int := match tS s p with | some (v, e) => (v, s, e, 0) | none => ((⟨#[]⟩ : ByteArray), s, p, 2)
def rdL (s : ByteArray) (p : Int) : Int × ByteArray × Int × Int := match lS s p with | some (v, e) => (v, s, e, 0) | none => (0, s, p, 2)
theorem rd_unsigned (k : Nat) (s : ByteArray) (p : Int) (hz : s.size ≤ 140737488355327) : codec_Reader_Unsigned.f (k + 12) s p 0 = some (rdU s p) := by
  unfold codec_Reader_Unsigned.f codec_Reader_Unsigned_1.f rdU
  rw [if_pos rfl, raw_eq k s p 3 (Or.inl rfl) hz, Option.bind_some, Option.bind_some]
  cases e : uS s p with
  | some x =>
    obtain ⟨v, q⟩ := x
    rw [(rawS3 s p).1 v q e, if_pos rfl]
  | none => rw [if_neg (by rw [(rawS3 s p).2 e]; exact Bool.false_ne_true)]
theorem rd_signed (k : Nat) (s : ByteArray) (p : Int) (hz : s.size ≤ 140737488355327) : codec_Reader_Signed.f (k + 12) s p 0 = some (rdS s p) := by
  unfold codec_Reader_Signed.f codec_Reader_Signed_1.f rdS
  rw [if_pos rfl, raw_eq k s p 4 (Or.inr rfl) hz, Option.bind_some, Option.bind_some]
  cases e : sS s p with
  | some x =>
    obtain ⟨v, q⟩ := x
    have hr := sS_some e
    rw [(rawS4 s p).1 v q e, if_pos rfl]
    have : wrap64 (IntKind.u64.wrap v) = v := by rw [u64w]; unfold wrap64; omega
    rw [this]
  | none => rw [if_neg (by rw [(rawS4 s p).2 e]; exact Bool.false_ne_true)]
theorem rd_text (k : Nat) (s : ByteArray) (p : Int) (hz : s.size ≤ 140737488355327) : codec_Reader_Text.f (k + 12) s p 0 = some (rdT s p) := by
  unfold codec_Reader_Text.f rdT
  rw [if_pos rfl, text_eq k s p hz, Option.bind_some]
  cases e : tS s p with
  | some x => obtain ⟨v, q⟩ := x; rw [optT_some, if_pos rfl]
  | none => rw [optT_none, if_neg Bool.false_ne_true]
theorem rd_list (k : Nat) (s : ByteArray) (p : Int) (hz : s.size ≤ 140737488355327) : codec_Reader_List.f (k + 12) s p 0 = some (rdL s p) := by
  unfold codec_Reader_List.f rdL
  rw [if_pos rfl, list_eq k s p hz, Option.bind_some]
  cases e : lS s p with
  | some x => obtain ⟨v, q⟩ := x; rw [opt3_some, if_pos rfl]
  | none => rw [opt3_none, if_neg Bool.false_ne_true]
end Go.Proofs.YtndeikikeeeigaaDoor.Pure
end
section
namespace Go.Proofs.YtndeikikeeeigaaDoor.Q
open Go.RowKit Go.Proofs.YtndeikikeeeigaaDoorW.PrintWords Go.Proofs.YtndeikikeeeigaaDoorW.PrintLast Go.Proofs.YtndeikikeeeigaaDoorW.PrintMore
attribute [local go_sem] max2_int min2_int max_two min_two max_three min_three max_four min_four
set_option linter.unusedVariables false
set_option linter.unusedSimpArgs false
def codec_Reader_Offset.f (s0_0 : ByteArray) (s0_1 : Int) (s0_2 : Int) : Option (Int × ByteArray × Int × Int) := some (s0_1, s0_0, s0_1, s0_2)
set_option maxHeartbeats 8000000 in
set_option maxRecDepth 100000 in
theorem codec_Reader_Offset.calls (g : Nat) (s0_0 : ByteArray) (s0_1 : Int) (s0_2 : Int) (r1 : Int) (r2 : ByteArray) (r3 : Int) (r4 : Int) (w0 w : World) (hG : Glob w0) (hI : IsS78 w0 w g s0_0 s0_1 s0_2) (hB : Below w0.heap.size w0 w) (h : codec_Reader_Offset.f s0_0 s0_1 s0_2 = some (r1, r2, r3, r4)) :
    Calls Tryd.prog 23 #[.pointer (some ⟨g, 0, none⟩)] w fun e w' => e = .returned (.int .i64 r1) ∧ IsS78 w0 w' g r2 r3 r4 ∧ Below w0.heap.size w0 w' ∧ KeepBut w w' g none := by
  have HG := Aside0.mk hG
  clear hG
  have HI0 := Aside0.mk hI
  have HK := Aside0.mk (KeepBut.refl w g none)
  have HL := Aside0.mk hB.size
  clear hI
  have HW0 := Aside0.mk hB.size
  have HB := Aside0.mk hB
  clear hB
  have H : (some (s0_1, s0_0, s0_1, s0_2)) = some (r1, r2, r3, r4) := h
  clear h
  simp only [Option.some.injEq, Prod.mk.injEq] at H
  obtain ⟨rfl, rfl, rfl, rfl⟩ := H
  obtain ⟨HGz2, hgz2⟩ := HI0.out
  have hcz2_0 := cellS78_0 HGz2
  have hcz2_1 := cellS78_1 HGz2
  have hcz2_2 := cellS78_2 HGz2
  have hfz2_0 := blk_frozen HGz2 0
  have hfz2_1 := blk_frozen HGz2 1
  have hfz2_2 := blk_frozen HGz2 2
  clear HGz2 hgz2
  go_enter Tryd.func23, Tryd.ntmps23
  go_wp2
  go_ret
  exact ⟨by first | rfl | (simp [errW_none, errW_some] <;> rfl) | (simp [*, errW_none, errW_some] <;> rfl), by repeat (first | (with_reducible first | exact HI0.out | apply IsS78.alloc | apply IsS78.drewN | apply IsS78.drew | apply IsS78.set_0 | apply IsS78.set_1 | apply IsS78.set_2) | exact HI0.out), by repeat (first | (with_reducible first | exact HB.out | apply below_alloc | apply pw_below_drewN | apply below_drew1 | refine below_set ?_ (IsS78.ge HI0.out)) | exact HB.out), by repeat (first | (with_reducible first | exact HK.out | apply KeepBut.set_ | apply keep_drewN | apply keep_drew | apply keep_alloc) | exact HK.out)⟩
end Go.Proofs.YtndeikikeeeigaaDoor.Q
end
section
namespace Go.Proofs.YtndeikikeeeigaaDoor.Q
open Go.RowKit Go.Proofs.YtndeikikeeeigaaDoorW.PrintWords Go.Proofs.YtndeikikeeeigaaDoorW.PrintLast Go.Proofs.YtndeikikeeeigaaDoorW.PrintMore
attribute [local go_sem] max2_int min2_int max_two min_two max_three min_three max_four min_four
set_option linter.unusedVariables false
set_option linter.unusedSimpArgs false
def codec_Reader_Err.f (s0_0 : ByteArray) (s0_1 : Int) (s0_2 : Int) : Option (Int × ByteArray × Int × Int) := some (s0_2, s0_0, s0_1, s0_2)
set_option maxHeartbeats 8000000 in
set_option maxRecDepth 100000 in
theorem codec_Reader_Err.calls (g : Nat) (s0_0 : ByteArray) (s0_1 : Int) (s0_2 : Int) (r1 : Int) (r2 : ByteArray) (r3 : Int) (r4 : Int) (w0 w : World) (hG : Glob w0) (hI : IsS78 w0 w g s0_0 s0_1 s0_2) (hB : Below w0.heap.size w0 w) (h : codec_Reader_Err.f s0_0 s0_1 s0_2 = some (r1, r2, r3, r4)) :
    Calls Tryd.prog 24 #[.pointer (some ⟨g, 0, none⟩)] w fun e w' => e = .returned (.int .i64 r1) ∧ IsS78 w0 w' g r2 r3 r4 ∧ Below w0.heap.size w0 w' ∧ KeepBut w w' g none := by
  have HG := Aside0.mk hG
  clear hG
  have HI0 := Aside0.mk hI
  have HK := Aside0.mk (KeepBut.refl w g none)
  have HL := Aside0.mk hB.size
  clear hI
  have HW0 := Aside0.mk hB.size
  have HB := Aside0.mk hB
  clear hB
  have H : (some (s0_2, s0_0, s0_1, s0_2)) = some (r1, r2, r3, r4) := h
  clear h
  simp only [Option.some.injEq, Prod.mk.injEq] at H
  obtain ⟨rfl, rfl, rfl, rfl⟩ := H
  obtain ⟨HGz2, hgz2⟩ := HI0.out
  have hcz2_0 := cellS78_0 HGz2
  have hcz2_1 := cellS78_1 HGz2
  have hcz2_2 := cellS78_2 HGz2
  have hfz2_0 := blk_frozen HGz2 0
  have hfz2_1 := blk_frozen HGz2 1
  have hfz2_2 := blk_frozen HGz2 2
  clear HGz2 hgz2
  go_enter Tryd.func24, Tryd.ntmps24
  go_wp2
  go_ret
  exact ⟨by first | rfl | (simp [errW_none, errW_some] <;> rfl) | (simp [*, errW_none, errW_some] <;> rfl), by repeat (first | (with_reducible first | exact HI0.out | apply IsS78.alloc | apply IsS78.drewN | apply IsS78.drew | apply IsS78.set_0 | apply IsS78.set_1 | apply IsS78.set_2) | exact HI0.out), by repeat (first | (with_reducible first | exact HB.out | apply below_alloc | apply pw_below_drewN | apply below_drew1 | refine below_set ?_ (IsS78.ge HI0.out)) | exact HB.out), by repeat (first | (with_reducible first | exact HK.out | apply KeepBut.set_ | apply keep_drewN | apply keep_drew | apply keep_alloc) | exact HK.out)⟩
end Go.Proofs.YtndeikikeeeigaaDoor.Q
end
section
namespace Go.Proofs.YtndeikikeeeigaaDoor.Q
open Go.RowKit Go.Proofs.YtndeikikeeeigaaDoorW.PrintWords Go.Proofs.YtndeikikeeeigaaDoorW.PrintLast Go.Proofs.YtndeikikeeeigaaDoorW.PrintMore
attribute [local go_sem] max2_int min2_int max_two min_two max_three min_three max_four min_four
set_option linter.unusedVariables false
set_option linter.unusedSimpArgs false
def plenumlaw02_read.f (k : Nat) (s0_0 : ByteArray) (s0_1 : Int) (s0_2 : Int) (a1_0 : Int) (a1_1 : Bool) (a1_2 : Int) (a1_3 : Int) (a1_4 : ByteArray) : Option (Bool × ByteArray × Int × Int) := (codec_Reader_Kind.f k s0_0 s0_1 s0_2).bind fun bt437 => (if bt437.1 = a1_0 then (if a1_0 = 1 then ((codec_Reader_Null.f k bt437.2.1 bt437.2.2.1 bt437.2.2.2).bind fun bt441 => (some (true, bt441.1, bt441.2.1, bt441.2.2))) else (if a1_0 = 2 then ((codec_Reader_Bool.f k bt437.2.1 bt437.2.2.1 bt437.2.2.2).bind fun bt444 => (some ((bt444.1 == a1_1), bt444.2.1, bt444.2.2.1, bt444.2.2.2))) else (if a1_0 = 3 then ((codec_Reader_Unsigned.f k bt437.2.1 bt437.2.2.1 bt437.2.2.2).bind fun bt448 => (some ((bt448.1 == a1_2), bt448.2.1, bt448.2.2.1, bt448.2.2.2))) else (if a1_0 = 4 then ((codec_Reader_Signed.f k bt437.2.1 bt437.2.2.1 bt437.2.2.2).bind fun bt452 => (some ((bt452.1 == a1_3), bt452.2.1, bt452.2.2.1, bt452.2.2.2))) else (if a1_0 = 5 then ((codec_Reader_Text.f k bt437.2.1 bt437.2.2.1 bt437.2.2.2).bind fun bt456 => (some ((bt456.1.toList == a1_4.toList), bt456.2.1, bt456.2.2.1, bt456.2.2.2))) else ((codec_Reader_List.f k bt437.2.1 bt437.2.2.1 bt437.2.2.2).bind fun bt460 => (some ((bt460.1 == a1_3), bt460.2.1, bt460.2.2.1, bt460.2.2.2)))))))) else (some (false, bt437.2.1, bt437.2.2.1, bt437.2.2.2)))
set_option maxHeartbeats 8000000 in
set_option maxRecDepth 100000 in
theorem plenumlaw02_read.calls (k : Nat) (g : Nat) (s0_0 : ByteArray) (s0_1 : Int) (s0_2 : Int) (a1_0 : Int) (a1_1 : Bool) (a1_2 : Int) (a1_3 : Int) (a1_4 : ByteArray) (r1 : Bool) (r2 : ByteArray) (r3 : Int) (r4 : Int) (w0 w : World) (hG : Glob w0) (hI : IsS78 w0 w g s0_0 s0_1 s0_2) (hB : Below w0.heap.size w0 w) (h : plenumlaw02_read.f k s0_0 s0_1 s0_2 a1_0 a1_1 a1_2 a1_3 a1_4 = some (r1, r2, r3, r4)) :
    Calls Tryd.prog 32 #[.pointer (some ⟨g, 0, none⟩), .agg #[.int .i64 a1_0, .bool a1_1, .int .u64 a1_2, .int .i64 a1_3, .string a1_4]] w fun e w' => e = .returned (.bool r1) ∧ IsS78 w0 w' g r2 r3 r4 ∧ Below w0.heap.size w0 w' ∧ KeepBut w w' g none := by
  have hu43 := Tryd.underlying43
  have HG := Aside0.mk hG
  clear hG
  have HI0 := Aside0.mk hI
  have HK := Aside0.mk (KeepBut.refl w g none)
  have HL := Aside0.mk hB.size
  clear hI
  have HW0 := Aside0.mk hB.size
  have HB := Aside0.mk hB
  clear hB
  have H : ((codec_Reader_Kind.f k s0_0 s0_1 s0_2).bind fun bt437 => (if bt437.1 = a1_0 then (if a1_0 = 1 then ((codec_Reader_Null.f k bt437.2.1 bt437.2.2.1 bt437.2.2.2).bind fun bt441 => (some (true, bt441.1, bt441.2.1, bt441.2.2))) else (if a1_0 = 2 then ((codec_Reader_Bool.f k bt437.2.1 bt437.2.2.1 bt437.2.2.2).bind fun bt444 => (some ((bt444.1 == a1_1), bt444.2.1, bt444.2.2.1, bt444.2.2.2))) else (if a1_0 = 3 then ((codec_Reader_Unsigned.f k bt437.2.1 bt437.2.2.1 bt437.2.2.2).bind fun bt448 => (some ((bt448.1 == a1_2), bt448.2.1, bt448.2.2.1, bt448.2.2.2))) else (if a1_0 = 4 then ((codec_Reader_Signed.f k bt437.2.1 bt437.2.2.1 bt437.2.2.2).bind fun bt452 => (some ((bt452.1 == a1_3), bt452.2.1, bt452.2.2.1, bt452.2.2.2))) else (if a1_0 = 5 then ((codec_Reader_Text.f k bt437.2.1 bt437.2.2.1 bt437.2.2.2).bind fun bt456 => (some ((bt456.1.toList == a1_4.toList), bt456.2.1, bt456.2.2.1, bt456.2.2.2))) else ((codec_Reader_List.f k bt437.2.1 bt437.2.2.1 bt437.2.2.2).bind fun bt460 => (some ((bt460.1 == a1_3), bt460.2.1, bt460.2.2.1, bt460.2.2.2)))))))) else (some (false, bt437.2.1, bt437.2.2.1, bt437.2.2.2)))) = some (r1, r2, r3, r4) := h
  clear h
  replace H := Option.bind_eq_some_iff.mp H
  obtain ⟨⟨t437, t438, t439, t440⟩, A30, H⟩ := H
  replace H : (if t437 = a1_0 then (if a1_0 = 1 then ((codec_Reader_Null.f k t438 t439 t440).bind fun bt441 => (some (true, bt441.1, bt441.2.1, bt441.2.2))) else (if a1_0 = 2 then ((codec_Reader_Bool.f k t438 t439 t440).bind fun bt444 => (some ((bt444.1 == a1_1), bt444.2.1, bt444.2.2.1, bt444.2.2.2))) else (if a1_0 = 3 then ((codec_Reader_Unsigned.f k t438 t439 t440).bind fun bt448 => (some ((bt448.1 == a1_2), bt448.2.1, bt448.2.2.1, bt448.2.2.2))) else (if a1_0 = 4 then ((codec_Reader_Signed.f k t438 t439 t440).bind fun bt452 => (some ((bt452.1 == a1_3), bt452.2.1, bt452.2.2.1, bt452.2.2.2))) else (if a1_0 = 5 then ((codec_Reader_Text.f k t438 t439 t440).bind fun bt456 => (some ((bt456.1.toList == a1_4.toList), bt456.2.1, bt456.2.2.1, bt456.2.2.2))) else ((codec_Reader_List.f k t438 t439 t440).bind fun bt460 => (some ((bt460.1 == a1_3), bt460.2.1, bt460.2.2.1, bt460.2.2.2)))))))) else (some (false, t438, t439, t440))) = some (r1, r2, r3, r4) := H
  have A3 := Aside0.mk A30
  clear A30
  by_cases c4 : t437 = a1_0
  · rw [if_pos c4] at H
    have c4b0 : (t437 == a1_0) = true := beq_iff_eq.mpr c4
    have c4b1 : (t437 != a1_0) = false := bne_eq_false_iff_eq.mpr c4
    clear c4
    by_cases c5 : a1_0 = 1
    · rw [if_pos c5] at H
      have c5b0 : (a1_0 == 1) = true := beq_iff_eq.mpr c5
      have c5b1 : (a1_0 != 1) = false := bne_eq_false_iff_eq.mpr c5
      clear c5
      replace H := Option.bind_eq_some_iff.mp H
      obtain ⟨⟨t441, t442, t443⟩, A60, H⟩ := H
      replace H : (some (true, t441, t442, t443)) = some (r1, r2, r3, r4) := H
      have A6 := Aside0.mk A60
      clear A60
      simp only [Option.some.injEq, Prod.mk.injEq] at H
      obtain ⟨rfl, rfl, rfl, rfl⟩ := H
      go_enter Tryd.func32, Tryd.ntmps32
      try go_wp2_with (first | ((with_reducible refine gate_dst (N := 3) rfl ?_); refine box_event ?hg (N := 3) ?hd (cs := #[.int .i64 a1_0, .bool a1_1, .int .u64 a1_2, .int .i64 a1_3, .string a1_4]) (t := 43) ?hr ?_; (case hd => rfl); (case hg => rfl); (case hr => first | (go_simp; done) | (go_simp; rfl)); intro gb436 hg w7 hbox hb; have n0_ := Aside0.mk (IsS78.below (by repeat (first | (with_reducible first | exact HI0.out | apply IsS78.alloc | apply IsS78.drewN | apply IsS78.drew | apply IsS78.set_0 | apply IsS78.set_1 | apply IsS78.set_2) | exact HI0.out)) hb); have n1_ := Aside0.mk (KeepBut.trans (by repeat (first | (with_reducible first | exact HK.out | apply KeepBut.set_ | apply keep_drewN | apply keep_drew | apply keep_alloc) | exact HK.out)) (KeepBut.of_below hb g none) (.inl rfl)); have n2_ := Aside0.mk (below_step (by repeat (first | (with_reducible first | exact HB.out | apply below_alloc | apply pw_below_drewN | apply below_drew1 | refine below_set ?_ (IsS78.ge HI0.out)) | exact HB.out)) hb); have n3_ := Aside0.mk (hbox); have n4_ := Aside0.mk ((by rw [hg]; exact (keep_size (w := w) (g := g) (row := none) (by repeat (first | (with_reducible first | exact HK.out | apply KeepBut.set_ | apply keep_drewN | apply keep_drew | apply keep_alloc) | exact HK.out))) : w.heap.size ≤ gb436)); have n5_ := Aside0.mk ((Nat.le_trans HW0.out (by rw [hg]; exact (keep_size (w := w) (g := g) (row := none) (by repeat (first | (with_reducible first | exact HK.out | apply KeepBut.set_ | apply keep_drewN | apply keep_drew | apply keep_alloc) | exact HK.out))) : w.heap.size ≤ gb436) : w0.heap.size ≤ gb436)); have n6_ := Aside0.mk ((by rw [hg]; exact Nat.ne_of_lt (IsS78.lt (show IsS78 w0 _ g s0_0 s0_1 s0_2 from by repeat (first | (with_reducible first | exact HI0.out | apply IsS78.alloc | apply IsS78.drewN | apply IsS78.drew | apply IsS78.set_0 | apply IsS78.set_1 | apply IsS78.set_2) | exact HI0.out))) : g ≠ gb436)); have n7_ := Aside0.mk ((by rw [hg]; exact Nat.ne_of_gt (IsS78.lt (show IsS78 w0 _ g s0_0 s0_1 s0_2 from by repeat (first | (with_reducible first | exact HI0.out | apply IsS78.alloc | apply IsS78.drewN | apply IsS78.drew | apply IsS78.set_0 | apply IsS78.set_1 | apply IsS78.set_2) | exact HI0.out))) : gb436 ≠ g)); clear HI0; clear HK; clear HB; have HI0 := n0_; have HK := n1_; have HB := n2_; have BK436 := n3_; have GW436 := n4_; have GE436 := n5_; have NB0_436 := n6_; have NB436_0 := n7_; clear n0_ n1_ n2_ n3_ n4_ n5_ n6_ n7_; clear hb hbox hg))
      have n0_ := Aside0.mk (blk_drew BK436.out)
      have n1_ := Aside0.mk (IsS78.drew HI0.out)
      have n2_ := Aside0.mk (keep_drew HK.out)
      have n3_ := Aside0.mk (below_drew1 HB.out)
      clear BK436
      clear HI0
      clear HK
      clear HB
      have BK436 := n0_
      have HI0 := n1_
      have HK := n2_
      have HB := n3_
      clear n0_ n1_ n2_ n3_
      refine start_ (n := 5) (S := fun w' => w'.cell? ⟨gb436, 0, none⟩ = some (.int .i64 a1_0) ∧ w'.cell? ⟨gb436, 1, none⟩ = some (.bool a1_1) ∧ w'.cell? ⟨gb436, 2, none⟩ = some (.int .u64 a1_2) ∧ w'.cell? ⟨gb436, 3, none⟩ = some (.int .i64 a1_3) ∧ w'.cell? ⟨gb436, 4, none⟩ = some (.string a1_4)) (ds := []) #[false, false, false, false, false] (by kernel_rfl) rfl rfl ⟨(blk_cell BK436.out 0).trans rfl, (blk_cell BK436.out 1).trans rfl, (blk_cell BK436.out 2).trans rfl, (blk_cell BK436.out 3).trans rfl, (blk_cell BK436.out 4).trans rfl⟩ (fun hHeld => ?_)
      generalize w7.drew = w8 at BK436 HI0 HK HB hHeld ⊢
      refine pure_ (i := 0) (N := some 5) (v := ?_) (a' := ?_) #[true, false, false, false, false] rfl rfl (by kernel_rfl) (fun _ _ _ h => h) (Or.inl ⟨by rfl, ?_⟩) ?_ ?_
      rotate_left
      · intro w'
        go_simp
        with_reducible rfl
      rotate_left
      · simp only [Act.put, List.setIfInBounds_toArray, List.set_cons_zero, List.set_cons_succ, i64_w, i32_w]
        rfl
      refine pure_ (i := 2) (N := some 7) (v := ?_) (a' := ?_) #[true, false, true, false, false] rfl rfl (by kernel_rfl) (fun _ _ _ h => h) (Or.inl ⟨by rfl, ?_⟩) ?_ ?_
      rotate_left
      · intro w'
        go_simp
        with_reducible rfl
      rotate_left
      · simp only [Act.put, List.setIfInBounds_toArray, List.set_cons_zero, List.set_cons_succ, i64_w, i32_w]
        rfl
      refine take_ (i := 3) (N := some 8) (v := ?_) (a' := ?_) #[true, false, true, true, false] rfl rfl (by kernel_rfl) (fun _ _ _ h => h) (Or.inl ⟨by rfl, ?_⟩) hHeld ?_ ?_
      rotate_left
      · rintro w' ⟨s0, s1, s2, s3, s4⟩
        go_simp
        with_reducible rfl
      rotate_left
      · simp only [Act.put, List.setIfInBounds_toArray, List.set_cons_zero, List.set_cons_succ, i64_w, i32_w]
        rfl
      refine one_ (i := 1) (N := some 6) #[true, true, true, true, false] rfl rfl (by kernel_rfl) (by decide) (fun K hK => ?_)
      refine goes_ Tryd.func22 (by kernel_rfl) rfl #[.pointer (some ⟨g, 0, none⟩)] (by rfl) rfl rfl (by (try simp only [List.map_toArray, List.map_cons, List.map_nil]); first | done | rfl | (simp only [List.length_drop, List.length_take]; rfl)) ?_
      with_reducible refine (codec_Reader_Kind.calls k g s0_0 s0_1 s0_2 t437 t438 t439 t440 w0 _ ?side99  ?side1 ?side2 A3.out).mono ?_
      (case side1 => repeat (first | (with_reducible first | exact HI0.out | apply IsS78.alloc | apply IsS78.drewN | apply IsS78.drew | apply IsS78.set_0 | apply IsS78.set_1 | apply IsS78.set_2 | refine IsS78.far ?_ NB0_436.out _) | exact HI0.out))
      (case side2 => repeat (first | (with_reducible first | exact HB.out | apply below_alloc | apply pw_below_drewN | apply below_drew1 | refine below_set ?_ (IsS78.ge HI0.out) | refine below_set ?_ GE436.out) | exact HB.out))
      (case side99 => exact HG.out)
      rintro e w9 ⟨rfl, hi, hb, hk⟩
      refine ⟨_, rfl, ?_⟩
      have n0_ := Aside0.mk (KeepBut.blk hk (g' := gb436) (o := .cells #[.int .i64 a1_0, .bool a1_1, .int .u64 a1_2, .int .i64 a1_3, .string a1_4] 43 (0, 0)) (by (with_reducible repeat (first | refine blk_drewN ?_ _ | refine blk_drew ?_ | refine blk_alloc ?_ _)); exact BK436.out) NB436_0.out (by simp))
      have n1_ := Aside0.mk (KeepBut.trans (by repeat (first | (with_reducible first | exact HK.out | apply KeepBut.set_ | apply keep_drewN | apply keep_drew | apply keep_alloc | refine keep_far ?_ GW436.out _) | exact HK.out)) hk (.inl rfl))
      have n2_ := Aside0.mk (hb)
      have n3_ := Aside0.mk (hi)
      clear BK436
      clear HK
      clear HB
      clear HI0
      have BK436 := n0_
      have HK := n1_
      have HB := n2_
      have HI0 := n3_
      clear n0_ n1_ n2_ n3_
      (try clear hb)
      (try clear hb2)
      (try clear hk)
      (try clear hi)
      refine hK.out _ _ ⟨(blk_cell BK436.out 0).trans rfl, (blk_cell BK436.out 1).trans rfl, (blk_cell BK436.out 2).trans rfl, (blk_cell BK436.out 3).trans rfl, (blk_cell BK436.out 4).trans rfl⟩ (fun hHeld => ?_)
      clear hK K
      refine norm_ (a' := ?_) ?_ ?_
      rotate_left
      · show Act.put _ (some 6) _ = _
        simp only [Act.put, List.setIfInBounds_toArray, List.set_cons_zero, List.set_cons_succ, i64_w, i32_w]
        rfl
      refine pure_ (i := 4) (N := some 9) (v := ?_) (a' := ?_) #[true, true, true, true, true] rfl rfl (by kernel_rfl) (fun _ _ _ h => h) (Or.inl ⟨by rfl, ?_⟩) ?_ ?_
      rotate_left
      · intro w'
        go_simp
        with_reducible rfl
      rotate_left
      · simp only [Act.put, List.setIfInBounds_toArray, List.set_cons_zero, List.set_cons_succ, i64_w, i32_w]
        rfl
      refine done_ (by kernel_rfl) ?_
      have hnb10 := NB436_0.out
      have hnc10 := NB0_436.out
      have hcz11_0 : w9.cell? ⟨gb436, 0, none⟩ = some (.int .i64 a1_0) := (blk_cell BK436.out 0).trans rfl
      have hcz11_1 : w9.cell? ⟨gb436, 1, none⟩ = some (.bool a1_1) := (blk_cell BK436.out 1).trans rfl
      have hcz11_2 : w9.cell? ⟨gb436, 2, none⟩ = some (.int .u64 a1_2) := (blk_cell BK436.out 2).trans rfl
      have hcz11_3 : w9.cell? ⟨gb436, 3, none⟩ = some (.int .i64 a1_3) := (blk_cell BK436.out 3).trans rfl
      have hcz11_4 : w9.cell? ⟨gb436, 4, none⟩ = some (.string a1_4) := (blk_cell BK436.out 4).trans rfl
      have hfz11_0 := blk_frozen BK436.out 0
      have hfz11_1 := blk_frozen BK436.out 1
      have hfz11_2 := blk_frozen BK436.out 2
      have hfz11_3 := blk_frozen BK436.out 3
      have hfz11_4 := blk_frozen BK436.out 4
      try go_wp2_with (first | ((with_reducible refine gate_callee (f := 60) rfl ?_); refine goesL_ (some 15) rfl rfl Tryd.func60 (by kernel_rfl) rfl #[.pointer (some ⟨g, 0, none⟩)] rfl (by (try simp only [List.map_toArray, List.map_cons, List.map_nil]); first | done | rfl | (simp only [List.length_drop, List.length_take]; rfl)) ?_; (with_reducible refine (codec_Reader_Null.calls k g t438 t439 t440 t441 t442 t443 w0 _ ?side99  ?side1 ?side2 A6.out).mono ?_); (case side1 => repeat (first | (with_reducible first | exact HI0.out | apply IsS78.alloc | apply IsS78.drewN | apply IsS78.drew | apply IsS78.set_0 | apply IsS78.set_1 | apply IsS78.set_2 | refine IsS78.far ?_ NB0_436.out _) | exact HI0.out)); (case side2 => repeat (first | (with_reducible first | exact HB.out | apply below_alloc | apply pw_below_drewN | apply below_drew1 | refine below_set ?_ (IsS78.ge HI0.out) | refine below_set ?_ GE436.out) | exact HB.out)); (case side99 => exact HG.out); rintro e w12 ⟨rfl, hi, hb, hk⟩; refine ⟨_, rfl, ?_⟩; have n0_ := Aside0.mk (KeepBut.blk hk (g' := gb436) (o := .cells #[.int .i64 a1_0, .bool a1_1, .int .u64 a1_2, .int .i64 a1_3, .string a1_4] 43 (0, 0)) (by (with_reducible repeat (first | refine blk_drewN ?_ _ | refine blk_drew ?_ | refine blk_alloc ?_ _)); exact BK436.out) NB436_0.out (by simp)); have n1_ := Aside0.mk (KeepBut.trans (by repeat (first | (with_reducible first | exact HK.out | apply KeepBut.set_ | apply keep_drewN | apply keep_drew | apply keep_alloc | refine keep_far ?_ GW436.out _) | exact HK.out)) hk (.inl rfl)); have n2_ := Aside0.mk (hb); have n3_ := Aside0.mk (hi); clear BK436; clear HK; clear HB; clear HI0; have BK436 := n0_; have HK := n1_; have HB := n2_; have HI0 := n3_; clear n0_ n1_ n2_ n3_; (try clear hb); (try clear hb2); (try clear hk); (try clear hi)))
      go_ret
      exact ⟨by first | rfl | (simp [errW_none, errW_some] <;> rfl) | (simp [*, errW_none, errW_some] <;> rfl), by repeat (first | (with_reducible first | exact HI0.out | apply IsS78.alloc | apply IsS78.drewN | apply IsS78.drew | apply IsS78.set_0 | apply IsS78.set_1 | apply IsS78.set_2 | refine IsS78.far ?_ NB0_436.out _) | exact HI0.out), by repeat (first | (with_reducible first | exact HB.out | apply below_alloc | apply pw_below_drewN | apply below_drew1 | refine below_set ?_ (IsS78.ge HI0.out) | refine below_set ?_ GE436.out) | exact HB.out), by repeat (first | (with_reducible first | exact HK.out | apply KeepBut.set_ | apply keep_drewN | apply keep_drew | apply keep_alloc | refine keep_far ?_ GW436.out _) | exact HK.out)⟩
    · rw [if_neg c5] at H
      have c5b0 : (a1_0 == 1) = false := beq_eq_false_iff_ne.mpr c5
      have c5b1 : (a1_0 != 1) = true := bne_iff_ne.mpr c5
      by_cases c13 : a1_0 = 2
      · rw [if_pos c13] at H
        have c13b0 : (a1_0 == 2) = true := beq_iff_eq.mpr c13
        have c13b1 : (a1_0 != 2) = false := bne_eq_false_iff_eq.mpr c13
        clear c13
        replace H := Option.bind_eq_some_iff.mp H
        obtain ⟨⟨t444, t445, t446, t447⟩, A140, H⟩ := H
        replace H : (some ((t444 == a1_1), t445, t446, t447)) = some (r1, r2, r3, r4) := H
        have A14 := Aside0.mk A140
        clear A140
        simp only [Option.some.injEq, Prod.mk.injEq] at H
        obtain ⟨rfl, rfl, rfl, rfl⟩ := H
        go_enter Tryd.func32, Tryd.ntmps32
        try go_wp2_with (first | ((with_reducible refine gate_dst (N := 3) rfl ?_); refine box_event ?hg (N := 3) ?hd (cs := #[.int .i64 a1_0, .bool a1_1, .int .u64 a1_2, .int .i64 a1_3, .string a1_4]) (t := 43) ?hr ?_; (case hd => rfl); (case hg => rfl); (case hr => first | (go_simp; done) | (go_simp; rfl)); intro gb436 hg w15 hbox hb; have n0_ := Aside0.mk (IsS78.below (by repeat (first | (with_reducible first | exact HI0.out | apply IsS78.alloc | apply IsS78.drewN | apply IsS78.drew | apply IsS78.set_0 | apply IsS78.set_1 | apply IsS78.set_2) | exact HI0.out)) hb); have n1_ := Aside0.mk (KeepBut.trans (by repeat (first | (with_reducible first | exact HK.out | apply KeepBut.set_ | apply keep_drewN | apply keep_drew | apply keep_alloc) | exact HK.out)) (KeepBut.of_below hb g none) (.inl rfl)); have n2_ := Aside0.mk (below_step (by repeat (first | (with_reducible first | exact HB.out | apply below_alloc | apply pw_below_drewN | apply below_drew1 | refine below_set ?_ (IsS78.ge HI0.out)) | exact HB.out)) hb); have n3_ := Aside0.mk (hbox); have n4_ := Aside0.mk ((by rw [hg]; exact (keep_size (w := w) (g := g) (row := none) (by repeat (first | (with_reducible first | exact HK.out | apply KeepBut.set_ | apply keep_drewN | apply keep_drew | apply keep_alloc) | exact HK.out))) : w.heap.size ≤ gb436)); have n5_ := Aside0.mk ((Nat.le_trans HW0.out (by rw [hg]; exact (keep_size (w := w) (g := g) (row := none) (by repeat (first | (with_reducible first | exact HK.out | apply KeepBut.set_ | apply keep_drewN | apply keep_drew | apply keep_alloc) | exact HK.out))) : w.heap.size ≤ gb436) : w0.heap.size ≤ gb436)); have n6_ := Aside0.mk ((by rw [hg]; exact Nat.ne_of_lt (IsS78.lt (show IsS78 w0 _ g s0_0 s0_1 s0_2 from by repeat (first | (with_reducible first | exact HI0.out | apply IsS78.alloc | apply IsS78.drewN | apply IsS78.drew | apply IsS78.set_0 | apply IsS78.set_1 | apply IsS78.set_2) | exact HI0.out))) : g ≠ gb436)); have n7_ := Aside0.mk ((by rw [hg]; exact Nat.ne_of_gt (IsS78.lt (show IsS78 w0 _ g s0_0 s0_1 s0_2 from by repeat (first | (with_reducible first | exact HI0.out | apply IsS78.alloc | apply IsS78.drewN | apply IsS78.drew | apply IsS78.set_0 | apply IsS78.set_1 | apply IsS78.set_2) | exact HI0.out))) : gb436 ≠ g)); clear HI0; clear HK; clear HB; have HI0 := n0_; have HK := n1_; have HB := n2_; have BK436 := n3_; have GW436 := n4_; have GE436 := n5_; have NB0_436 := n6_; have NB436_0 := n7_; clear n0_ n1_ n2_ n3_ n4_ n5_ n6_ n7_; clear hb hbox hg))
        have n0_ := Aside0.mk (blk_drew BK436.out)
        have n1_ := Aside0.mk (IsS78.drew HI0.out)
        have n2_ := Aside0.mk (keep_drew HK.out)
        have n3_ := Aside0.mk (below_drew1 HB.out)
        clear BK436
        clear HI0
        clear HK
        clear HB
        have BK436 := n0_
        have HI0 := n1_
        have HK := n2_
        have HB := n3_
        clear n0_ n1_ n2_ n3_
        refine start_ (n := 5) (S := fun w' => w'.cell? ⟨gb436, 0, none⟩ = some (.int .i64 a1_0) ∧ w'.cell? ⟨gb436, 1, none⟩ = some (.bool a1_1) ∧ w'.cell? ⟨gb436, 2, none⟩ = some (.int .u64 a1_2) ∧ w'.cell? ⟨gb436, 3, none⟩ = some (.int .i64 a1_3) ∧ w'.cell? ⟨gb436, 4, none⟩ = some (.string a1_4)) (ds := []) #[false, false, false, false, false] (by kernel_rfl) rfl rfl ⟨(blk_cell BK436.out 0).trans rfl, (blk_cell BK436.out 1).trans rfl, (blk_cell BK436.out 2).trans rfl, (blk_cell BK436.out 3).trans rfl, (blk_cell BK436.out 4).trans rfl⟩ (fun hHeld => ?_)
        generalize w15.drew = w16 at BK436 HI0 HK HB hHeld ⊢
        refine pure_ (i := 0) (N := some 5) (v := ?_) (a' := ?_) #[true, false, false, false, false] rfl rfl (by kernel_rfl) (fun _ _ _ h => h) (Or.inl ⟨by rfl, ?_⟩) ?_ ?_
        rotate_left
        · intro w'
          go_simp
          with_reducible rfl
        rotate_left
        · simp only [Act.put, List.setIfInBounds_toArray, List.set_cons_zero, List.set_cons_succ, i64_w, i32_w]
          rfl
        refine pure_ (i := 2) (N := some 7) (v := ?_) (a' := ?_) #[true, false, true, false, false] rfl rfl (by kernel_rfl) (fun _ _ _ h => h) (Or.inl ⟨by rfl, ?_⟩) ?_ ?_
        rotate_left
        · intro w'
          go_simp
          with_reducible rfl
        rotate_left
        · simp only [Act.put, List.setIfInBounds_toArray, List.set_cons_zero, List.set_cons_succ, i64_w, i32_w]
          rfl
        refine take_ (i := 3) (N := some 8) (v := ?_) (a' := ?_) #[true, false, true, true, false] rfl rfl (by kernel_rfl) (fun _ _ _ h => h) (Or.inl ⟨by rfl, ?_⟩) hHeld ?_ ?_
        rotate_left
        · rintro w' ⟨s0, s1, s2, s3, s4⟩
          go_simp
          with_reducible rfl
        rotate_left
        · simp only [Act.put, List.setIfInBounds_toArray, List.set_cons_zero, List.set_cons_succ, i64_w, i32_w]
          rfl
        refine one_ (i := 1) (N := some 6) #[true, true, true, true, false] rfl rfl (by kernel_rfl) (by decide) (fun K hK => ?_)
        refine goes_ Tryd.func22 (by kernel_rfl) rfl #[.pointer (some ⟨g, 0, none⟩)] (by rfl) rfl rfl (by (try simp only [List.map_toArray, List.map_cons, List.map_nil]); first | done | rfl | (simp only [List.length_drop, List.length_take]; rfl)) ?_
        with_reducible refine (codec_Reader_Kind.calls k g s0_0 s0_1 s0_2 t437 t438 t439 t440 w0 _ ?side99  ?side1 ?side2 A3.out).mono ?_
        (case side1 => repeat (first | (with_reducible first | exact HI0.out | apply IsS78.alloc | apply IsS78.drewN | apply IsS78.drew | apply IsS78.set_0 | apply IsS78.set_1 | apply IsS78.set_2 | refine IsS78.far ?_ NB0_436.out _) | exact HI0.out))
        (case side2 => repeat (first | (with_reducible first | exact HB.out | apply below_alloc | apply pw_below_drewN | apply below_drew1 | refine below_set ?_ (IsS78.ge HI0.out) | refine below_set ?_ GE436.out) | exact HB.out))
        (case side99 => exact HG.out)
        rintro e w17 ⟨rfl, hi, hb, hk⟩
        refine ⟨_, rfl, ?_⟩
        have n0_ := Aside0.mk (KeepBut.blk hk (g' := gb436) (o := .cells #[.int .i64 a1_0, .bool a1_1, .int .u64 a1_2, .int .i64 a1_3, .string a1_4] 43 (0, 0)) (by (with_reducible repeat (first | refine blk_drewN ?_ _ | refine blk_drew ?_ | refine blk_alloc ?_ _)); exact BK436.out) NB436_0.out (by simp))
        have n1_ := Aside0.mk (KeepBut.trans (by repeat (first | (with_reducible first | exact HK.out | apply KeepBut.set_ | apply keep_drewN | apply keep_drew | apply keep_alloc | refine keep_far ?_ GW436.out _) | exact HK.out)) hk (.inl rfl))
        have n2_ := Aside0.mk (hb)
        have n3_ := Aside0.mk (hi)
        clear BK436
        clear HK
        clear HB
        clear HI0
        have BK436 := n0_
        have HK := n1_
        have HB := n2_
        have HI0 := n3_
        clear n0_ n1_ n2_ n3_
        (try clear hb)
        (try clear hb2)
        (try clear hk)
        (try clear hi)
        refine hK.out _ _ ⟨(blk_cell BK436.out 0).trans rfl, (blk_cell BK436.out 1).trans rfl, (blk_cell BK436.out 2).trans rfl, (blk_cell BK436.out 3).trans rfl, (blk_cell BK436.out 4).trans rfl⟩ (fun hHeld => ?_)
        clear hK K
        refine norm_ (a' := ?_) ?_ ?_
        rotate_left
        · show Act.put _ (some 6) _ = _
          simp only [Act.put, List.setIfInBounds_toArray, List.set_cons_zero, List.set_cons_succ, i64_w, i32_w]
          rfl
        refine pure_ (i := 4) (N := some 9) (v := ?_) (a' := ?_) #[true, true, true, true, true] rfl rfl (by kernel_rfl) (fun _ _ _ h => h) (Or.inl ⟨by rfl, ?_⟩) ?_ ?_
        rotate_left
        · intro w'
          go_simp
          with_reducible rfl
        rotate_left
        · simp only [Act.put, List.setIfInBounds_toArray, List.set_cons_zero, List.set_cons_succ, i64_w, i32_w]
          rfl
        refine done_ (by kernel_rfl) ?_
        have hnb18 := NB436_0.out
        have hnc18 := NB0_436.out
        have hcz19_0 : w17.cell? ⟨gb436, 0, none⟩ = some (.int .i64 a1_0) := (blk_cell BK436.out 0).trans rfl
        have hcz19_1 : w17.cell? ⟨gb436, 1, none⟩ = some (.bool a1_1) := (blk_cell BK436.out 1).trans rfl
        have hcz19_2 : w17.cell? ⟨gb436, 2, none⟩ = some (.int .u64 a1_2) := (blk_cell BK436.out 2).trans rfl
        have hcz19_3 : w17.cell? ⟨gb436, 3, none⟩ = some (.int .i64 a1_3) := (blk_cell BK436.out 3).trans rfl
        have hcz19_4 : w17.cell? ⟨gb436, 4, none⟩ = some (.string a1_4) := (blk_cell BK436.out 4).trans rfl
        have hfz19_0 := blk_frozen BK436.out 0
        have hfz19_1 := blk_frozen BK436.out 1
        have hfz19_2 := blk_frozen BK436.out 2
        have hfz19_3 := blk_frozen BK436.out 3
        have hfz19_4 := blk_frozen BK436.out 4
        try go_wp2
        have n0_ := Aside0.mk (blk_drew BK436.out)
        have n1_ := Aside0.mk (IsS78.drew HI0.out)
        have n2_ := Aside0.mk (keep_drew HK.out)
        have n3_ := Aside0.mk (below_drew1 HB.out)
        clear BK436
        clear HI0
        clear HK
        clear HB
        have BK436 := n0_
        have HI0 := n1_
        have HK := n2_
        have HB := n3_
        clear n0_ n1_ n2_ n3_
        refine start_ (n := 6) (S := fun w' => w'.cell? ⟨gb436, 0, none⟩ = some (.int .i64 a1_0) ∧ w'.cell? ⟨gb436, 1, none⟩ = some (.bool a1_1) ∧ w'.cell? ⟨gb436, 2, none⟩ = some (.int .u64 a1_2) ∧ w'.cell? ⟨gb436, 3, none⟩ = some (.int .i64 a1_3) ∧ w'.cell? ⟨gb436, 4, none⟩ = some (.string a1_4)) (ds := []) #[false, false, false, false, false, false] (by kernel_rfl) rfl rfl ⟨(blk_cell BK436.out 0).trans rfl, (blk_cell BK436.out 1).trans rfl, (blk_cell BK436.out 2).trans rfl, (blk_cell BK436.out 3).trans rfl, (blk_cell BK436.out 4).trans rfl⟩ (fun hHeld => ?_)
        generalize w17.drew = w20 at BK436 HI0 HK HB hHeld ⊢
        refine pure_ (i := 0) (N := some 18) (v := ?_) (a' := ?_) #[true, false, false, false, false, false] rfl rfl (by kernel_rfl) (fun _ _ _ h => h) (Or.inl ⟨by rfl, ?_⟩) ?_ ?_
        rotate_left
        · intro w'
          go_simp
          with_reducible rfl
        rotate_left
        · simp only [Act.put, List.setIfInBounds_toArray, List.set_cons_zero, List.set_cons_succ, i64_w, i32_w]
          rfl
        refine pure_ (i := 2) (N := some 20) (v := ?_) (a' := ?_) #[true, false, true, false, false, false] rfl rfl (by kernel_rfl) (fun _ _ _ h => h) (Or.inl ⟨by rfl, ?_⟩) ?_ ?_
        rotate_left
        · intro w'
          go_simp
          with_reducible rfl
        rotate_left
        · simp only [Act.put, List.setIfInBounds_toArray, List.set_cons_zero, List.set_cons_succ, i64_w, i32_w]
          rfl
        refine take_ (i := 3) (N := some 21) (v := ?_) (a' := ?_) #[true, false, true, true, false, false] rfl rfl (by kernel_rfl) (fun _ _ _ h => h) (Or.inl ⟨by rfl, ?_⟩) hHeld ?_ ?_
        rotate_left
        · rintro w' ⟨s0, s1, s2, s3, s4⟩
          go_simp
          with_reducible rfl
        rotate_left
        · simp only [Act.put, List.setIfInBounds_toArray, List.set_cons_zero, List.set_cons_succ, i64_w, i32_w]
          rfl
        refine one_ (i := 1) (N := some 19) #[true, true, true, true, false, false] rfl rfl (by kernel_rfl) (by decide) (fun K hK => ?_)
        refine goes_ Tryd.func30 (by kernel_rfl) rfl #[.pointer (some ⟨g, 0, none⟩)] (by rfl) rfl rfl (by (try simp only [List.map_toArray, List.map_cons, List.map_nil]); first | done | rfl | (simp only [List.length_drop, List.length_take]; rfl)) ?_
        with_reducible refine (codec_Reader_Bool.calls k g t438 t439 t440 t444 t445 t446 t447 w0 _ ?side99  ?side1 ?side2 A14.out).mono ?_
        (case side1 => repeat (first | (with_reducible first | exact HI0.out | apply IsS78.alloc | apply IsS78.drewN | apply IsS78.drew | apply IsS78.set_0 | apply IsS78.set_1 | apply IsS78.set_2 | refine IsS78.far ?_ NB0_436.out _) | exact HI0.out))
        (case side2 => repeat (first | (with_reducible first | exact HB.out | apply below_alloc | apply pw_below_drewN | apply below_drew1 | refine below_set ?_ (IsS78.ge HI0.out) | refine below_set ?_ GE436.out) | exact HB.out))
        (case side99 => exact HG.out)
        rintro e w21 ⟨rfl, hi, hb, hk⟩
        refine ⟨_, rfl, ?_⟩
        have n0_ := Aside0.mk (KeepBut.blk hk (g' := gb436) (o := .cells #[.int .i64 a1_0, .bool a1_1, .int .u64 a1_2, .int .i64 a1_3, .string a1_4] 43 (0, 0)) (by (with_reducible repeat (first | refine blk_drewN ?_ _ | refine blk_drew ?_ | refine blk_alloc ?_ _)); exact BK436.out) NB436_0.out (by simp))
        have n1_ := Aside0.mk (KeepBut.trans (by repeat (first | (with_reducible first | exact HK.out | apply KeepBut.set_ | apply keep_drewN | apply keep_drew | apply keep_alloc | refine keep_far ?_ GW436.out _) | exact HK.out)) hk (.inl rfl))
        have n2_ := Aside0.mk (hb)
        have n3_ := Aside0.mk (hi)
        clear BK436
        clear HK
        clear HB
        clear HI0
        have BK436 := n0_
        have HK := n1_
        have HB := n2_
        have HI0 := n3_
        clear n0_ n1_ n2_ n3_
        (try clear hb)
        (try clear hb2)
        (try clear hk)
        (try clear hi)
        refine hK.out _ _ ⟨(blk_cell BK436.out 0).trans rfl, (blk_cell BK436.out 1).trans rfl, (blk_cell BK436.out 2).trans rfl, (blk_cell BK436.out 3).trans rfl, (blk_cell BK436.out 4).trans rfl⟩ (fun hHeld => ?_)
        clear hK K
        refine norm_ (a' := ?_) ?_ ?_
        rotate_left
        · show Act.put _ (some 19) _ = _
          simp only [Act.put, List.setIfInBounds_toArray, List.set_cons_zero, List.set_cons_succ, i64_w, i32_w]
          rfl
        refine pure_ (i := 4) (N := some 22) (v := ?_) (a' := ?_) #[true, true, true, true, true, false] rfl rfl (by kernel_rfl) (fun _ _ _ h => h) (Or.inl ⟨by rfl, ?_⟩) ?_ ?_
        rotate_left
        · intro w'
          go_simp
          with_reducible rfl
        rotate_left
        · simp only [Act.put, List.setIfInBounds_toArray, List.set_cons_zero, List.set_cons_succ, i64_w, i32_w]
          rfl
        refine pure_ (i := 5) (N := some 4) (v := ?_) (a' := ?_) #[true, true, true, true, true, true] rfl rfl (by kernel_rfl) (fun _ _ _ h => h) (Or.inl ⟨by rfl, ?_⟩) ?_ ?_
        rotate_left
        · intro w'
          go_simp
          with_reducible rfl
        rotate_left
        · simp only [Act.put, List.setIfInBounds_toArray, List.set_cons_zero, List.set_cons_succ, i64_w, i32_w]
          rfl
        refine done_ (by kernel_rfl) ?_
        try go_wp2
        go_ret
        exact ⟨by first | rfl | (simp [errW_none, errW_some] <;> rfl) | (simp [*, errW_none, errW_some] <;> rfl), by repeat (first | (with_reducible first | exact HI0.out | apply IsS78.alloc | apply IsS78.drewN | apply IsS78.drew | apply IsS78.set_0 | apply IsS78.set_1 | apply IsS78.set_2 | refine IsS78.far ?_ NB0_436.out _) | exact HI0.out), by repeat (first | (with_reducible first | exact HB.out | apply below_alloc | apply pw_below_drewN | apply below_drew1 | refine below_set ?_ (IsS78.ge HI0.out) | refine below_set ?_ GE436.out) | exact HB.out), by repeat (first | (with_reducible first | exact HK.out | apply KeepBut.set_ | apply keep_drewN | apply keep_drew | apply keep_alloc | refine keep_far ?_ GW436.out _) | exact HK.out)⟩
      · rw [if_neg c13] at H
        have c13b0 : (a1_0 == 2) = false := beq_eq_false_iff_ne.mpr c13
        have c13b1 : (a1_0 != 2) = true := bne_iff_ne.mpr c13
        by_cases c22 : a1_0 = 3
        · rw [if_pos c22] at H
          have c22b0 : (a1_0 == 3) = true := beq_iff_eq.mpr c22
          have c22b1 : (a1_0 != 3) = false := bne_eq_false_iff_eq.mpr c22
          clear c22
          replace H := Option.bind_eq_some_iff.mp H
          obtain ⟨⟨t448, t449, t450, t451⟩, A230, H⟩ := H
          replace H : (some ((t448 == a1_2), t449, t450, t451)) = some (r1, r2, r3, r4) := H
          have A23 := Aside0.mk A230
          clear A230
          simp only [Option.some.injEq, Prod.mk.injEq] at H
          obtain ⟨rfl, rfl, rfl, rfl⟩ := H
          go_enter Tryd.func32, Tryd.ntmps32
          try go_wp2_with (first | ((with_reducible refine gate_dst (N := 3) rfl ?_); refine box_event ?hg (N := 3) ?hd (cs := #[.int .i64 a1_0, .bool a1_1, .int .u64 a1_2, .int .i64 a1_3, .string a1_4]) (t := 43) ?hr ?_; (case hd => rfl); (case hg => rfl); (case hr => first | (go_simp; done) | (go_simp; rfl)); intro gb436 hg w24 hbox hb; have n0_ := Aside0.mk (IsS78.below (by repeat (first | (with_reducible first | exact HI0.out | apply IsS78.alloc | apply IsS78.drewN | apply IsS78.drew | apply IsS78.set_0 | apply IsS78.set_1 | apply IsS78.set_2) | exact HI0.out)) hb); have n1_ := Aside0.mk (KeepBut.trans (by repeat (first | (with_reducible first | exact HK.out | apply KeepBut.set_ | apply keep_drewN | apply keep_drew | apply keep_alloc) | exact HK.out)) (KeepBut.of_below hb g none) (.inl rfl)); have n2_ := Aside0.mk (below_step (by repeat (first | (with_reducible first | exact HB.out | apply below_alloc | apply pw_below_drewN | apply below_drew1 | refine below_set ?_ (IsS78.ge HI0.out)) | exact HB.out)) hb); have n3_ := Aside0.mk (hbox); have n4_ := Aside0.mk ((by rw [hg]; exact (keep_size (w := w) (g := g) (row := none) (by repeat (first | (with_reducible first | exact HK.out | apply KeepBut.set_ | apply keep_drewN | apply keep_drew | apply keep_alloc) | exact HK.out))) : w.heap.size ≤ gb436)); have n5_ := Aside0.mk ((Nat.le_trans HW0.out (by rw [hg]; exact (keep_size (w := w) (g := g) (row := none) (by repeat (first | (with_reducible first | exact HK.out | apply KeepBut.set_ | apply keep_drewN | apply keep_drew | apply keep_alloc) | exact HK.out))) : w.heap.size ≤ gb436) : w0.heap.size ≤ gb436)); have n6_ := Aside0.mk ((by rw [hg]; exact Nat.ne_of_lt (IsS78.lt (show IsS78 w0 _ g s0_0 s0_1 s0_2 from by repeat (first | (with_reducible first | exact HI0.out | apply IsS78.alloc | apply IsS78.drewN | apply IsS78.drew | apply IsS78.set_0 | apply IsS78.set_1 | apply IsS78.set_2) | exact HI0.out))) : g ≠ gb436)); have n7_ := Aside0.mk ((by rw [hg]; exact Nat.ne_of_gt (IsS78.lt (show IsS78 w0 _ g s0_0 s0_1 s0_2 from by repeat (first | (with_reducible first | exact HI0.out | apply IsS78.alloc | apply IsS78.drewN | apply IsS78.drew | apply IsS78.set_0 | apply IsS78.set_1 | apply IsS78.set_2) | exact HI0.out))) : gb436 ≠ g)); clear HI0; clear HK; clear HB; have HI0 := n0_; have HK := n1_; have HB := n2_; have BK436 := n3_; have GW436 := n4_; have GE436 := n5_; have NB0_436 := n6_; have NB436_0 := n7_; clear n0_ n1_ n2_ n3_ n4_ n5_ n6_ n7_; clear hb hbox hg))
          have n0_ := Aside0.mk (blk_drew BK436.out)
          have n1_ := Aside0.mk (IsS78.drew HI0.out)
          have n2_ := Aside0.mk (keep_drew HK.out)
          have n3_ := Aside0.mk (below_drew1 HB.out)
          clear BK436
          clear HI0
          clear HK
          clear HB
          have BK436 := n0_
          have HI0 := n1_
          have HK := n2_
          have HB := n3_
          clear n0_ n1_ n2_ n3_
          refine start_ (n := 5) (S := fun w' => w'.cell? ⟨gb436, 0, none⟩ = some (.int .i64 a1_0) ∧ w'.cell? ⟨gb436, 1, none⟩ = some (.bool a1_1) ∧ w'.cell? ⟨gb436, 2, none⟩ = some (.int .u64 a1_2) ∧ w'.cell? ⟨gb436, 3, none⟩ = some (.int .i64 a1_3) ∧ w'.cell? ⟨gb436, 4, none⟩ = some (.string a1_4)) (ds := []) #[false, false, false, false, false] (by kernel_rfl) rfl rfl ⟨(blk_cell BK436.out 0).trans rfl, (blk_cell BK436.out 1).trans rfl, (blk_cell BK436.out 2).trans rfl, (blk_cell BK436.out 3).trans rfl, (blk_cell BK436.out 4).trans rfl⟩ (fun hHeld => ?_)
          generalize w24.drew = w25 at BK436 HI0 HK HB hHeld ⊢
          refine pure_ (i := 0) (N := some 5) (v := ?_) (a' := ?_) #[true, false, false, false, false] rfl rfl (by kernel_rfl) (fun _ _ _ h => h) (Or.inl ⟨by rfl, ?_⟩) ?_ ?_
          rotate_left
          · intro w'
            go_simp
            with_reducible rfl
          rotate_left
          · simp only [Act.put, List.setIfInBounds_toArray, List.set_cons_zero, List.set_cons_succ, i64_w, i32_w]
            rfl
          refine pure_ (i := 2) (N := some 7) (v := ?_) (a' := ?_) #[true, false, true, false, false] rfl rfl (by kernel_rfl) (fun _ _ _ h => h) (Or.inl ⟨by rfl, ?_⟩) ?_ ?_
          rotate_left
          · intro w'
            go_simp
            with_reducible rfl
          rotate_left
          · simp only [Act.put, List.setIfInBounds_toArray, List.set_cons_zero, List.set_cons_succ, i64_w, i32_w]
            rfl
          refine take_ (i := 3) (N := some 8) (v := ?_) (a' := ?_) #[true, false, true, true, false] rfl rfl (by kernel_rfl) (fun _ _ _ h => h) (Or.inl ⟨by rfl, ?_⟩) hHeld ?_ ?_
          rotate_left
          · rintro w' ⟨s0, s1, s2, s3, s4⟩
            go_simp
            with_reducible rfl
          rotate_left
          · simp only [Act.put, List.setIfInBounds_toArray, List.set_cons_zero, List.set_cons_succ, i64_w, i32_w]
            rfl
          refine one_ (i := 1) (N := some 6) #[true, true, true, true, false] rfl rfl (by kernel_rfl) (by decide) (fun K hK => ?_)
          refine goes_ Tryd.func22 (by kernel_rfl) rfl #[.pointer (some ⟨g, 0, none⟩)] (by rfl) rfl rfl (by (try simp only [List.map_toArray, List.map_cons, List.map_nil]); first | done | rfl | (simp only [List.length_drop, List.length_take]; rfl)) ?_
          with_reducible refine (codec_Reader_Kind.calls k g s0_0 s0_1 s0_2 t437 t438 t439 t440 w0 _ ?side99  ?side1 ?side2 A3.out).mono ?_
          (case side1 => repeat (first | (with_reducible first | exact HI0.out | apply IsS78.alloc | apply IsS78.drewN | apply IsS78.drew | apply IsS78.set_0 | apply IsS78.set_1 | apply IsS78.set_2 | refine IsS78.far ?_ NB0_436.out _) | exact HI0.out))
          (case side2 => repeat (first | (with_reducible first | exact HB.out | apply below_alloc | apply pw_below_drewN | apply below_drew1 | refine below_set ?_ (IsS78.ge HI0.out) | refine below_set ?_ GE436.out) | exact HB.out))
          (case side99 => exact HG.out)
          rintro e w26 ⟨rfl, hi, hb, hk⟩
          refine ⟨_, rfl, ?_⟩
          have n0_ := Aside0.mk (KeepBut.blk hk (g' := gb436) (o := .cells #[.int .i64 a1_0, .bool a1_1, .int .u64 a1_2, .int .i64 a1_3, .string a1_4] 43 (0, 0)) (by (with_reducible repeat (first | refine blk_drewN ?_ _ | refine blk_drew ?_ | refine blk_alloc ?_ _)); exact BK436.out) NB436_0.out (by simp))
          have n1_ := Aside0.mk (KeepBut.trans (by repeat (first | (with_reducible first | exact HK.out | apply KeepBut.set_ | apply keep_drewN | apply keep_drew | apply keep_alloc | refine keep_far ?_ GW436.out _) | exact HK.out)) hk (.inl rfl))
          have n2_ := Aside0.mk (hb)
          have n3_ := Aside0.mk (hi)
          clear BK436
          clear HK
          clear HB
          clear HI0
          have BK436 := n0_
          have HK := n1_
          have HB := n2_
          have HI0 := n3_
          clear n0_ n1_ n2_ n3_
          (try clear hb)
          (try clear hb2)
          (try clear hk)
          (try clear hi)
          refine hK.out _ _ ⟨(blk_cell BK436.out 0).trans rfl, (blk_cell BK436.out 1).trans rfl, (blk_cell BK436.out 2).trans rfl, (blk_cell BK436.out 3).trans rfl, (blk_cell BK436.out 4).trans rfl⟩ (fun hHeld => ?_)
          clear hK K
          refine norm_ (a' := ?_) ?_ ?_
          rotate_left
          · show Act.put _ (some 6) _ = _
            simp only [Act.put, List.setIfInBounds_toArray, List.set_cons_zero, List.set_cons_succ, i64_w, i32_w]
            rfl
          refine pure_ (i := 4) (N := some 9) (v := ?_) (a' := ?_) #[true, true, true, true, true] rfl rfl (by kernel_rfl) (fun _ _ _ h => h) (Or.inl ⟨by rfl, ?_⟩) ?_ ?_
          rotate_left
          · intro w'
            go_simp
            with_reducible rfl
          rotate_left
          · simp only [Act.put, List.setIfInBounds_toArray, List.set_cons_zero, List.set_cons_succ, i64_w, i32_w]
            rfl
          refine done_ (by kernel_rfl) ?_
          have hnb27 := NB436_0.out
          have hnc27 := NB0_436.out
          have hcz28_0 : w26.cell? ⟨gb436, 0, none⟩ = some (.int .i64 a1_0) := (blk_cell BK436.out 0).trans rfl
          have hcz28_1 : w26.cell? ⟨gb436, 1, none⟩ = some (.bool a1_1) := (blk_cell BK436.out 1).trans rfl
          have hcz28_2 : w26.cell? ⟨gb436, 2, none⟩ = some (.int .u64 a1_2) := (blk_cell BK436.out 2).trans rfl
          have hcz28_3 : w26.cell? ⟨gb436, 3, none⟩ = some (.int .i64 a1_3) := (blk_cell BK436.out 3).trans rfl
          have hcz28_4 : w26.cell? ⟨gb436, 4, none⟩ = some (.string a1_4) := (blk_cell BK436.out 4).trans rfl
          have hfz28_0 := blk_frozen BK436.out 0
          have hfz28_1 := blk_frozen BK436.out 1
          have hfz28_2 := blk_frozen BK436.out 2
          have hfz28_3 := blk_frozen BK436.out 3
          have hfz28_4 := blk_frozen BK436.out 4
          try go_wp2
          have n0_ := Aside0.mk (blk_drew BK436.out)
          have n1_ := Aside0.mk (IsS78.drew HI0.out)
          have n2_ := Aside0.mk (keep_drew HK.out)
          have n3_ := Aside0.mk (below_drew1 HB.out)
          clear BK436
          clear HI0
          clear HK
          clear HB
          have BK436 := n0_
          have HI0 := n1_
          have HK := n2_
          have HB := n3_
          clear n0_ n1_ n2_ n3_
          refine start_ (n := 6) (S := fun w' => w'.cell? ⟨gb436, 0, none⟩ = some (.int .i64 a1_0) ∧ w'.cell? ⟨gb436, 1, none⟩ = some (.bool a1_1) ∧ w'.cell? ⟨gb436, 2, none⟩ = some (.int .u64 a1_2) ∧ w'.cell? ⟨gb436, 3, none⟩ = some (.int .i64 a1_3) ∧ w'.cell? ⟨gb436, 4, none⟩ = some (.string a1_4)) (ds := []) #[false, false, false, false, false, false] (by kernel_rfl) rfl rfl ⟨(blk_cell BK436.out 0).trans rfl, (blk_cell BK436.out 1).trans rfl, (blk_cell BK436.out 2).trans rfl, (blk_cell BK436.out 3).trans rfl, (blk_cell BK436.out 4).trans rfl⟩ (fun hHeld => ?_)
          generalize w26.drew = w29 at BK436 HI0 HK HB hHeld ⊢
          refine pure_ (i := 0) (N := some 25) (v := ?_) (a' := ?_) #[true, false, false, false, false, false] rfl rfl (by kernel_rfl) (fun _ _ _ h => h) (Or.inl ⟨by rfl, ?_⟩) ?_ ?_
          rotate_left
          · intro w'
            go_simp
            with_reducible rfl
          rotate_left
          · simp only [Act.put, List.setIfInBounds_toArray, List.set_cons_zero, List.set_cons_succ, i64_w, i32_w]
            rfl
          refine pure_ (i := 2) (N := some 27) (v := ?_) (a' := ?_) #[true, false, true, false, false, false] rfl rfl (by kernel_rfl) (fun _ _ _ h => h) (Or.inl ⟨by rfl, ?_⟩) ?_ ?_
          rotate_left
          · intro w'
            go_simp
            with_reducible rfl
          rotate_left
          · simp only [Act.put, List.setIfInBounds_toArray, List.set_cons_zero, List.set_cons_succ, i64_w, i32_w]
            rfl
          refine take_ (i := 3) (N := some 28) (v := ?_) (a' := ?_) #[true, false, true, true, false, false] rfl rfl (by kernel_rfl) (fun _ _ _ h => h) (Or.inl ⟨by rfl, ?_⟩) hHeld ?_ ?_
          rotate_left
          · rintro w' ⟨s0, s1, s2, s3, s4⟩
            go_simp
            with_reducible rfl
          rotate_left
          · simp only [Act.put, List.setIfInBounds_toArray, List.set_cons_zero, List.set_cons_succ, i64_w, i32_w]
            rfl
          refine one_ (i := 1) (N := some 26) #[true, true, true, true, false, false] rfl rfl (by kernel_rfl) (by decide) (fun K hK => ?_)
          refine goes_ Tryd.func26 (by kernel_rfl) rfl #[.pointer (some ⟨g, 0, none⟩)] (by rfl) rfl rfl (by (try simp only [List.map_toArray, List.map_cons, List.map_nil]); first | done | rfl | (simp only [List.length_drop, List.length_take]; rfl)) ?_
          with_reducible refine (codec_Reader_Unsigned.calls k g t438 t439 t440 t448 t449 t450 t451 w0 _ ?side99  ?side1 ?side2 A23.out).mono ?_
          (case side1 => repeat (first | (with_reducible first | exact HI0.out | apply IsS78.alloc | apply IsS78.drewN | apply IsS78.drew | apply IsS78.set_0 | apply IsS78.set_1 | apply IsS78.set_2 | refine IsS78.far ?_ NB0_436.out _) | exact HI0.out))
          (case side2 => repeat (first | (with_reducible first | exact HB.out | apply below_alloc | apply pw_below_drewN | apply below_drew1 | refine below_set ?_ (IsS78.ge HI0.out) | refine below_set ?_ GE436.out) | exact HB.out))
          (case side99 => exact HG.out)
          rintro e w30 ⟨rfl, hi, hb, hk⟩
          refine ⟨_, rfl, ?_⟩
          have n0_ := Aside0.mk (KeepBut.blk hk (g' := gb436) (o := .cells #[.int .i64 a1_0, .bool a1_1, .int .u64 a1_2, .int .i64 a1_3, .string a1_4] 43 (0, 0)) (by (with_reducible repeat (first | refine blk_drewN ?_ _ | refine blk_drew ?_ | refine blk_alloc ?_ _)); exact BK436.out) NB436_0.out (by simp))
          have n1_ := Aside0.mk (KeepBut.trans (by repeat (first | (with_reducible first | exact HK.out | apply KeepBut.set_ | apply keep_drewN | apply keep_drew | apply keep_alloc | refine keep_far ?_ GW436.out _) | exact HK.out)) hk (.inl rfl))
          have n2_ := Aside0.mk (hb)
          have n3_ := Aside0.mk (hi)
          clear BK436
          clear HK
          clear HB
          clear HI0
          have BK436 := n0_
          have HK := n1_
          have HB := n2_
          have HI0 := n3_
          clear n0_ n1_ n2_ n3_
          (try clear hb)
          (try clear hb2)
          (try clear hk)
          (try clear hi)
          refine hK.out _ _ ⟨(blk_cell BK436.out 0).trans rfl, (blk_cell BK436.out 1).trans rfl, (blk_cell BK436.out 2).trans rfl, (blk_cell BK436.out 3).trans rfl, (blk_cell BK436.out 4).trans rfl⟩ (fun hHeld => ?_)
          clear hK K
          refine norm_ (a' := ?_) ?_ ?_
          rotate_left
          · show Act.put _ (some 26) _ = _
            simp only [Act.put, List.setIfInBounds_toArray, List.set_cons_zero, List.set_cons_succ, i64_w, i32_w]
            rfl
          refine pure_ (i := 4) (N := some 29) (v := ?_) (a' := ?_) #[true, true, true, true, true, false] rfl rfl (by kernel_rfl) (fun _ _ _ h => h) (Or.inl ⟨by rfl, ?_⟩) ?_ ?_
          rotate_left
          · intro w'
            go_simp
            with_reducible rfl
          rotate_left
          · simp only [Act.put, List.setIfInBounds_toArray, List.set_cons_zero, List.set_cons_succ, i64_w, i32_w]
            rfl
          refine pure_ (i := 5) (N := some 4) (v := ?_) (a' := ?_) #[true, true, true, true, true, true] rfl rfl (by kernel_rfl) (fun _ _ _ h => h) (Or.inl ⟨by rfl, ?_⟩) ?_ ?_
          rotate_left
          · intro w'
            go_simp
            with_reducible rfl
          rotate_left
          · simp only [Act.put, List.setIfInBounds_toArray, List.set_cons_zero, List.set_cons_succ, i64_w, i32_w]
            rfl
          refine done_ (by kernel_rfl) ?_
          try go_wp2
          go_ret
          exact ⟨by first | rfl | (simp [errW_none, errW_some] <;> rfl) | (simp [*, errW_none, errW_some] <;> rfl), by repeat (first | (with_reducible first | exact HI0.out | apply IsS78.alloc | apply IsS78.drewN | apply IsS78.drew | apply IsS78.set_0 | apply IsS78.set_1 | apply IsS78.set_2 | refine IsS78.far ?_ NB0_436.out _) | exact HI0.out), by repeat (first | (with_reducible first | exact HB.out | apply below_alloc | apply pw_below_drewN | apply below_drew1 | refine below_set ?_ (IsS78.ge HI0.out) | refine below_set ?_ GE436.out) | exact HB.out), by repeat (first | (with_reducible first | exact HK.out | apply KeepBut.set_ | apply keep_drewN | apply keep_drew | apply keep_alloc | refine keep_far ?_ GW436.out _) | exact HK.out)⟩
        · rw [if_neg c22] at H
          have c22b0 : (a1_0 == 3) = false := beq_eq_false_iff_ne.mpr c22
          have c22b1 : (a1_0 != 3) = true := bne_iff_ne.mpr c22
          by_cases c31 : a1_0 = 4
          · rw [if_pos c31] at H
            have c31b0 : (a1_0 == 4) = true := beq_iff_eq.mpr c31
            have c31b1 : (a1_0 != 4) = false := bne_eq_false_iff_eq.mpr c31
            clear c31
            replace H := Option.bind_eq_some_iff.mp H
            obtain ⟨⟨t452, t453, t454, t455⟩, A320, H⟩ := H
            replace H : (some ((t452 == a1_3), t453, t454, t455)) = some (r1, r2, r3, r4) := H
            have A32 := Aside0.mk A320
            clear A320
            simp only [Option.some.injEq, Prod.mk.injEq] at H
            obtain ⟨rfl, rfl, rfl, rfl⟩ := H
            go_enter Tryd.func32, Tryd.ntmps32
            try go_wp2_with (first | ((with_reducible refine gate_dst (N := 3) rfl ?_); refine box_event ?hg (N := 3) ?hd (cs := #[.int .i64 a1_0, .bool a1_1, .int .u64 a1_2, .int .i64 a1_3, .string a1_4]) (t := 43) ?hr ?_; (case hd => rfl); (case hg => rfl); (case hr => first | (go_simp; done) | (go_simp; rfl)); intro gb436 hg w33 hbox hb; have n0_ := Aside0.mk (IsS78.below (by repeat (first | (with_reducible first | exact HI0.out | apply IsS78.alloc | apply IsS78.drewN | apply IsS78.drew | apply IsS78.set_0 | apply IsS78.set_1 | apply IsS78.set_2) | exact HI0.out)) hb); have n1_ := Aside0.mk (KeepBut.trans (by repeat (first | (with_reducible first | exact HK.out | apply KeepBut.set_ | apply keep_drewN | apply keep_drew | apply keep_alloc) | exact HK.out)) (KeepBut.of_below hb g none) (.inl rfl)); have n2_ := Aside0.mk (below_step (by repeat (first | (with_reducible first | exact HB.out | apply below_alloc | apply pw_below_drewN | apply below_drew1 | refine below_set ?_ (IsS78.ge HI0.out)) | exact HB.out)) hb); have n3_ := Aside0.mk (hbox); have n4_ := Aside0.mk ((by rw [hg]; exact (keep_size (w := w) (g := g) (row := none) (by repeat (first | (with_reducible first | exact HK.out | apply KeepBut.set_ | apply keep_drewN | apply keep_drew | apply keep_alloc) | exact HK.out))) : w.heap.size ≤ gb436)); have n5_ := Aside0.mk ((Nat.le_trans HW0.out (by rw [hg]; exact (keep_size (w := w) (g := g) (row := none) (by repeat (first | (with_reducible first | exact HK.out | apply KeepBut.set_ | apply keep_drewN | apply keep_drew | apply keep_alloc) | exact HK.out))) : w.heap.size ≤ gb436) : w0.heap.size ≤ gb436)); have n6_ := Aside0.mk ((by rw [hg]; exact Nat.ne_of_lt (IsS78.lt (show IsS78 w0 _ g s0_0 s0_1 s0_2 from by repeat (first | (with_reducible first | exact HI0.out | apply IsS78.alloc | apply IsS78.drewN | apply IsS78.drew | apply IsS78.set_0 | apply IsS78.set_1 | apply IsS78.set_2) | exact HI0.out))) : g ≠ gb436)); have n7_ := Aside0.mk ((by rw [hg]; exact Nat.ne_of_gt (IsS78.lt (show IsS78 w0 _ g s0_0 s0_1 s0_2 from by repeat (first | (with_reducible first | exact HI0.out | apply IsS78.alloc | apply IsS78.drewN | apply IsS78.drew | apply IsS78.set_0 | apply IsS78.set_1 | apply IsS78.set_2) | exact HI0.out))) : gb436 ≠ g)); clear HI0; clear HK; clear HB; have HI0 := n0_; have HK := n1_; have HB := n2_; have BK436 := n3_; have GW436 := n4_; have GE436 := n5_; have NB0_436 := n6_; have NB436_0 := n7_; clear n0_ n1_ n2_ n3_ n4_ n5_ n6_ n7_; clear hb hbox hg))
            have n0_ := Aside0.mk (blk_drew BK436.out)
            have n1_ := Aside0.mk (IsS78.drew HI0.out)
            have n2_ := Aside0.mk (keep_drew HK.out)
            have n3_ := Aside0.mk (below_drew1 HB.out)
            clear BK436
            clear HI0
            clear HK
            clear HB
            have BK436 := n0_
            have HI0 := n1_
            have HK := n2_
            have HB := n3_
            clear n0_ n1_ n2_ n3_
            refine start_ (n := 5) (S := fun w' => w'.cell? ⟨gb436, 0, none⟩ = some (.int .i64 a1_0) ∧ w'.cell? ⟨gb436, 1, none⟩ = some (.bool a1_1) ∧ w'.cell? ⟨gb436, 2, none⟩ = some (.int .u64 a1_2) ∧ w'.cell? ⟨gb436, 3, none⟩ = some (.int .i64 a1_3) ∧ w'.cell? ⟨gb436, 4, none⟩ = some (.string a1_4)) (ds := []) #[false, false, false, false, false] (by kernel_rfl) rfl rfl ⟨(blk_cell BK436.out 0).trans rfl, (blk_cell BK436.out 1).trans rfl, (blk_cell BK436.out 2).trans rfl, (blk_cell BK436.out 3).trans rfl, (blk_cell BK436.out 4).trans rfl⟩ (fun hHeld => ?_)
            generalize w33.drew = w34 at BK436 HI0 HK HB hHeld ⊢
            refine pure_ (i := 0) (N := some 5) (v := ?_) (a' := ?_) #[true, false, false, false, false] rfl rfl (by kernel_rfl) (fun _ _ _ h => h) (Or.inl ⟨by rfl, ?_⟩) ?_ ?_
            rotate_left
            · intro w'
              go_simp
              with_reducible rfl
            rotate_left
            · simp only [Act.put, List.setIfInBounds_toArray, List.set_cons_zero, List.set_cons_succ, i64_w, i32_w]
              rfl
            refine pure_ (i := 2) (N := some 7) (v := ?_) (a' := ?_) #[true, false, true, false, false] rfl rfl (by kernel_rfl) (fun _ _ _ h => h) (Or.inl ⟨by rfl, ?_⟩) ?_ ?_
            rotate_left
            · intro w'
              go_simp
              with_reducible rfl
            rotate_left
            · simp only [Act.put, List.setIfInBounds_toArray, List.set_cons_zero, List.set_cons_succ, i64_w, i32_w]
              rfl
            refine take_ (i := 3) (N := some 8) (v := ?_) (a' := ?_) #[true, false, true, true, false] rfl rfl (by kernel_rfl) (fun _ _ _ h => h) (Or.inl ⟨by rfl, ?_⟩) hHeld ?_ ?_
            rotate_left
            · rintro w' ⟨s0, s1, s2, s3, s4⟩
              go_simp
              with_reducible rfl
            rotate_left
            · simp only [Act.put, List.setIfInBounds_toArray, List.set_cons_zero, List.set_cons_succ, i64_w, i32_w]
              rfl
            refine one_ (i := 1) (N := some 6) #[true, true, true, true, false] rfl rfl (by kernel_rfl) (by decide) (fun K hK => ?_)
            refine goes_ Tryd.func22 (by kernel_rfl) rfl #[.pointer (some ⟨g, 0, none⟩)] (by rfl) rfl rfl (by (try simp only [List.map_toArray, List.map_cons, List.map_nil]); first | done | rfl | (simp only [List.length_drop, List.length_take]; rfl)) ?_
            with_reducible refine (codec_Reader_Kind.calls k g s0_0 s0_1 s0_2 t437 t438 t439 t440 w0 _ ?side99  ?side1 ?side2 A3.out).mono ?_
            (case side1 => repeat (first | (with_reducible first | exact HI0.out | apply IsS78.alloc | apply IsS78.drewN | apply IsS78.drew | apply IsS78.set_0 | apply IsS78.set_1 | apply IsS78.set_2 | refine IsS78.far ?_ NB0_436.out _) | exact HI0.out))
            (case side2 => repeat (first | (with_reducible first | exact HB.out | apply below_alloc | apply pw_below_drewN | apply below_drew1 | refine below_set ?_ (IsS78.ge HI0.out) | refine below_set ?_ GE436.out) | exact HB.out))
            (case side99 => exact HG.out)
            rintro e w35 ⟨rfl, hi, hb, hk⟩
            refine ⟨_, rfl, ?_⟩
            have n0_ := Aside0.mk (KeepBut.blk hk (g' := gb436) (o := .cells #[.int .i64 a1_0, .bool a1_1, .int .u64 a1_2, .int .i64 a1_3, .string a1_4] 43 (0, 0)) (by (with_reducible repeat (first | refine blk_drewN ?_ _ | refine blk_drew ?_ | refine blk_alloc ?_ _)); exact BK436.out) NB436_0.out (by simp))
            have n1_ := Aside0.mk (KeepBut.trans (by repeat (first | (with_reducible first | exact HK.out | apply KeepBut.set_ | apply keep_drewN | apply keep_drew | apply keep_alloc | refine keep_far ?_ GW436.out _) | exact HK.out)) hk (.inl rfl))
            have n2_ := Aside0.mk (hb)
            have n3_ := Aside0.mk (hi)
            clear BK436
            clear HK
            clear HB
            clear HI0
            have BK436 := n0_
            have HK := n1_
            have HB := n2_
            have HI0 := n3_
            clear n0_ n1_ n2_ n3_
            (try clear hb)
            (try clear hb2)
            (try clear hk)
            (try clear hi)
            refine hK.out _ _ ⟨(blk_cell BK436.out 0).trans rfl, (blk_cell BK436.out 1).trans rfl, (blk_cell BK436.out 2).trans rfl, (blk_cell BK436.out 3).trans rfl, (blk_cell BK436.out 4).trans rfl⟩ (fun hHeld => ?_)
            clear hK K
            refine norm_ (a' := ?_) ?_ ?_
            rotate_left
            · show Act.put _ (some 6) _ = _
              simp only [Act.put, List.setIfInBounds_toArray, List.set_cons_zero, List.set_cons_succ, i64_w, i32_w]
              rfl
            refine pure_ (i := 4) (N := some 9) (v := ?_) (a' := ?_) #[true, true, true, true, true] rfl rfl (by kernel_rfl) (fun _ _ _ h => h) (Or.inl ⟨by rfl, ?_⟩) ?_ ?_
            rotate_left
            · intro w'
              go_simp
              with_reducible rfl
            rotate_left
            · simp only [Act.put, List.setIfInBounds_toArray, List.set_cons_zero, List.set_cons_succ, i64_w, i32_w]
              rfl
            refine done_ (by kernel_rfl) ?_
            have hnb36 := NB436_0.out
            have hnc36 := NB0_436.out
            have hcz37_0 : w35.cell? ⟨gb436, 0, none⟩ = some (.int .i64 a1_0) := (blk_cell BK436.out 0).trans rfl
            have hcz37_1 : w35.cell? ⟨gb436, 1, none⟩ = some (.bool a1_1) := (blk_cell BK436.out 1).trans rfl
            have hcz37_2 : w35.cell? ⟨gb436, 2, none⟩ = some (.int .u64 a1_2) := (blk_cell BK436.out 2).trans rfl
            have hcz37_3 : w35.cell? ⟨gb436, 3, none⟩ = some (.int .i64 a1_3) := (blk_cell BK436.out 3).trans rfl
            have hcz37_4 : w35.cell? ⟨gb436, 4, none⟩ = some (.string a1_4) := (blk_cell BK436.out 4).trans rfl
            have hfz37_0 := blk_frozen BK436.out 0
            have hfz37_1 := blk_frozen BK436.out 1
            have hfz37_2 := blk_frozen BK436.out 2
            have hfz37_3 := blk_frozen BK436.out 3
            have hfz37_4 := blk_frozen BK436.out 4
            try go_wp2
            have n0_ := Aside0.mk (blk_drew BK436.out)
            have n1_ := Aside0.mk (IsS78.drew HI0.out)
            have n2_ := Aside0.mk (keep_drew HK.out)
            have n3_ := Aside0.mk (below_drew1 HB.out)
            clear BK436
            clear HI0
            clear HK
            clear HB
            have BK436 := n0_
            have HI0 := n1_
            have HK := n2_
            have HB := n3_
            clear n0_ n1_ n2_ n3_
            refine start_ (n := 6) (S := fun w' => w'.cell? ⟨gb436, 0, none⟩ = some (.int .i64 a1_0) ∧ w'.cell? ⟨gb436, 1, none⟩ = some (.bool a1_1) ∧ w'.cell? ⟨gb436, 2, none⟩ = some (.int .u64 a1_2) ∧ w'.cell? ⟨gb436, 3, none⟩ = some (.int .i64 a1_3) ∧ w'.cell? ⟨gb436, 4, none⟩ = some (.string a1_4)) (ds := []) #[false, false, false, false, false, false] (by kernel_rfl) rfl rfl ⟨(blk_cell BK436.out 0).trans rfl, (blk_cell BK436.out 1).trans rfl, (blk_cell BK436.out 2).trans rfl, (blk_cell BK436.out 3).trans rfl, (blk_cell BK436.out 4).trans rfl⟩ (fun hHeld => ?_)
            generalize w35.drew = w38 at BK436 HI0 HK HB hHeld ⊢
            refine pure_ (i := 0) (N := some 32) (v := ?_) (a' := ?_) #[true, false, false, false, false, false] rfl rfl (by kernel_rfl) (fun _ _ _ h => h) (Or.inl ⟨by rfl, ?_⟩) ?_ ?_
            rotate_left
            · intro w'
              go_simp
              with_reducible rfl
            rotate_left
            · simp only [Act.put, List.setIfInBounds_toArray, List.set_cons_zero, List.set_cons_succ, i64_w, i32_w]
              rfl
            refine pure_ (i := 2) (N := some 34) (v := ?_) (a' := ?_) #[true, false, true, false, false, false] rfl rfl (by kernel_rfl) (fun _ _ _ h => h) (Or.inl ⟨by rfl, ?_⟩) ?_ ?_
            rotate_left
            · intro w'
              go_simp
              with_reducible rfl
            rotate_left
            · simp only [Act.put, List.setIfInBounds_toArray, List.set_cons_zero, List.set_cons_succ, i64_w, i32_w]
              rfl
            refine take_ (i := 3) (N := some 35) (v := ?_) (a' := ?_) #[true, false, true, true, false, false] rfl rfl (by kernel_rfl) (fun _ _ _ h => h) (Or.inl ⟨by rfl, ?_⟩) hHeld ?_ ?_
            rotate_left
            · rintro w' ⟨s0, s1, s2, s3, s4⟩
              go_simp
              with_reducible rfl
            rotate_left
            · simp only [Act.put, List.setIfInBounds_toArray, List.set_cons_zero, List.set_cons_succ, i64_w, i32_w]
              rfl
            refine one_ (i := 1) (N := some 33) #[true, true, true, true, false, false] rfl rfl (by kernel_rfl) (by decide) (fun K hK => ?_)
            refine goes_ Tryd.func27 (by kernel_rfl) rfl #[.pointer (some ⟨g, 0, none⟩)] (by rfl) rfl rfl (by (try simp only [List.map_toArray, List.map_cons, List.map_nil]); first | done | rfl | (simp only [List.length_drop, List.length_take]; rfl)) ?_
            with_reducible refine (codec_Reader_Signed.calls k g t438 t439 t440 t452 t453 t454 t455 w0 _ ?side99  ?side1 ?side2 A32.out).mono ?_
            (case side1 => repeat (first | (with_reducible first | exact HI0.out | apply IsS78.alloc | apply IsS78.drewN | apply IsS78.drew | apply IsS78.set_0 | apply IsS78.set_1 | apply IsS78.set_2 | refine IsS78.far ?_ NB0_436.out _) | exact HI0.out))
            (case side2 => repeat (first | (with_reducible first | exact HB.out | apply below_alloc | apply pw_below_drewN | apply below_drew1 | refine below_set ?_ (IsS78.ge HI0.out) | refine below_set ?_ GE436.out) | exact HB.out))
            (case side99 => exact HG.out)
            rintro e w39 ⟨rfl, hi, hb, hk⟩
            refine ⟨_, rfl, ?_⟩
            have n0_ := Aside0.mk (KeepBut.blk hk (g' := gb436) (o := .cells #[.int .i64 a1_0, .bool a1_1, .int .u64 a1_2, .int .i64 a1_3, .string a1_4] 43 (0, 0)) (by (with_reducible repeat (first | refine blk_drewN ?_ _ | refine blk_drew ?_ | refine blk_alloc ?_ _)); exact BK436.out) NB436_0.out (by simp))
            have n1_ := Aside0.mk (KeepBut.trans (by repeat (first | (with_reducible first | exact HK.out | apply KeepBut.set_ | apply keep_drewN | apply keep_drew | apply keep_alloc | refine keep_far ?_ GW436.out _) | exact HK.out)) hk (.inl rfl))
            have n2_ := Aside0.mk (hb)
            have n3_ := Aside0.mk (hi)
            clear BK436
            clear HK
            clear HB
            clear HI0
            have BK436 := n0_
            have HK := n1_
            have HB := n2_
            have HI0 := n3_
            clear n0_ n1_ n2_ n3_
            (try clear hb)
            (try clear hb2)
            (try clear hk)
            (try clear hi)
            refine hK.out _ _ ⟨(blk_cell BK436.out 0).trans rfl, (blk_cell BK436.out 1).trans rfl, (blk_cell BK436.out 2).trans rfl, (blk_cell BK436.out 3).trans rfl, (blk_cell BK436.out 4).trans rfl⟩ (fun hHeld => ?_)
            clear hK K
            refine norm_ (a' := ?_) ?_ ?_
            rotate_left
            · show Act.put _ (some 33) _ = _
              simp only [Act.put, List.setIfInBounds_toArray, List.set_cons_zero, List.set_cons_succ, i64_w, i32_w]
              rfl
            refine pure_ (i := 4) (N := some 36) (v := ?_) (a' := ?_) #[true, true, true, true, true, false] rfl rfl (by kernel_rfl) (fun _ _ _ h => h) (Or.inl ⟨by rfl, ?_⟩) ?_ ?_
            rotate_left
            · intro w'
              go_simp
              with_reducible rfl
            rotate_left
            · simp only [Act.put, List.setIfInBounds_toArray, List.set_cons_zero, List.set_cons_succ, i64_w, i32_w]
              rfl
            refine pure_ (i := 5) (N := some 4) (v := ?_) (a' := ?_) #[true, true, true, true, true, true] rfl rfl (by kernel_rfl) (fun _ _ _ h => h) (Or.inl ⟨by rfl, ?_⟩) ?_ ?_
            rotate_left
            · intro w'
              go_simp
              with_reducible rfl
            rotate_left
            · simp only [Act.put, List.setIfInBounds_toArray, List.set_cons_zero, List.set_cons_succ, i64_w, i32_w]
              rfl
            refine done_ (by kernel_rfl) ?_
            try go_wp2
            go_ret
            exact ⟨by first | rfl | (simp [errW_none, errW_some] <;> rfl) | (simp [*, errW_none, errW_some] <;> rfl), by repeat (first | (with_reducible first | exact HI0.out | apply IsS78.alloc | apply IsS78.drewN | apply IsS78.drew | apply IsS78.set_0 | apply IsS78.set_1 | apply IsS78.set_2 | refine IsS78.far ?_ NB0_436.out _) | exact HI0.out), by repeat (first | (with_reducible first | exact HB.out | apply below_alloc | apply pw_below_drewN | apply below_drew1 | refine below_set ?_ (IsS78.ge HI0.out) | refine below_set ?_ GE436.out) | exact HB.out), by repeat (first | (with_reducible first | exact HK.out | apply KeepBut.set_ | apply keep_drewN | apply keep_drew | apply keep_alloc | refine keep_far ?_ GW436.out _) | exact HK.out)⟩
          · rw [if_neg c31] at H
            have c31b0 : (a1_0 == 4) = false := beq_eq_false_iff_ne.mpr c31
            have c31b1 : (a1_0 != 4) = true := bne_iff_ne.mpr c31
            by_cases c40 : a1_0 = 5
            · rw [if_pos c40] at H
              have c40b0 : (a1_0 == 5) = true := beq_iff_eq.mpr c40
              have c40b1 : (a1_0 != 5) = false := bne_eq_false_iff_eq.mpr c40
              clear c40
              replace H := Option.bind_eq_some_iff.mp H
              obtain ⟨⟨t456, t457, t458, t459⟩, A410, H⟩ := H
              replace H : (some ((t456.toList == a1_4.toList), t457, t458, t459)) = some (r1, r2, r3, r4) := H
              have A41 := Aside0.mk A410
              clear A410
              simp only [Option.some.injEq, Prod.mk.injEq] at H
              obtain ⟨rfl, rfl, rfl, rfl⟩ := H
              go_enter Tryd.func32, Tryd.ntmps32
              try go_wp2_with (first | ((with_reducible refine gate_dst (N := 3) rfl ?_); refine box_event ?hg (N := 3) ?hd (cs := #[.int .i64 a1_0, .bool a1_1, .int .u64 a1_2, .int .i64 a1_3, .string a1_4]) (t := 43) ?hr ?_; (case hd => rfl); (case hg => rfl); (case hr => first | (go_simp; done) | (go_simp; rfl)); intro gb436 hg w42 hbox hb; have n0_ := Aside0.mk (IsS78.below (by repeat (first | (with_reducible first | exact HI0.out | apply IsS78.alloc | apply IsS78.drewN | apply IsS78.drew | apply IsS78.set_0 | apply IsS78.set_1 | apply IsS78.set_2) | exact HI0.out)) hb); have n1_ := Aside0.mk (KeepBut.trans (by repeat (first | (with_reducible first | exact HK.out | apply KeepBut.set_ | apply keep_drewN | apply keep_drew | apply keep_alloc) | exact HK.out)) (KeepBut.of_below hb g none) (.inl rfl)); have n2_ := Aside0.mk (below_step (by repeat (first | (with_reducible first | exact HB.out | apply below_alloc | apply pw_below_drewN | apply below_drew1 | refine below_set ?_ (IsS78.ge HI0.out)) | exact HB.out)) hb); have n3_ := Aside0.mk (hbox); have n4_ := Aside0.mk ((by rw [hg]; exact (keep_size (w := w) (g := g) (row := none) (by repeat (first | (with_reducible first | exact HK.out | apply KeepBut.set_ | apply keep_drewN | apply keep_drew | apply keep_alloc) | exact HK.out))) : w.heap.size ≤ gb436)); have n5_ := Aside0.mk ((Nat.le_trans HW0.out (by rw [hg]; exact (keep_size (w := w) (g := g) (row := none) (by repeat (first | (with_reducible first | exact HK.out | apply KeepBut.set_ | apply keep_drewN | apply keep_drew | apply keep_alloc) | exact HK.out))) : w.heap.size ≤ gb436) : w0.heap.size ≤ gb436)); have n6_ := Aside0.mk ((by rw [hg]; exact Nat.ne_of_lt (IsS78.lt (show IsS78 w0 _ g s0_0 s0_1 s0_2 from by repeat (first | (with_reducible first | exact HI0.out | apply IsS78.alloc | apply IsS78.drewN | apply IsS78.drew | apply IsS78.set_0 | apply IsS78.set_1 | apply IsS78.set_2) | exact HI0.out))) : g ≠ gb436)); have n7_ := Aside0.mk ((by rw [hg]; exact Nat.ne_of_gt (IsS78.lt (show IsS78 w0 _ g s0_0 s0_1 s0_2 from by repeat (first | (with_reducible first | exact HI0.out | apply IsS78.alloc | apply IsS78.drewN | apply IsS78.drew | apply IsS78.set_0 | apply IsS78.set_1 | apply IsS78.set_2) | exact HI0.out))) : gb436 ≠ g)); clear HI0; clear HK; clear HB; have HI0 := n0_; have HK := n1_; have HB := n2_; have BK436 := n3_; have GW436 := n4_; have GE436 := n5_; have NB0_436 := n6_; have NB436_0 := n7_; clear n0_ n1_ n2_ n3_ n4_ n5_ n6_ n7_; clear hb hbox hg))
              have n0_ := Aside0.mk (blk_drew BK436.out)
              have n1_ := Aside0.mk (IsS78.drew HI0.out)
              have n2_ := Aside0.mk (keep_drew HK.out)
              have n3_ := Aside0.mk (below_drew1 HB.out)
              clear BK436
              clear HI0
              clear HK
              clear HB
              have BK436 := n0_
              have HI0 := n1_
              have HK := n2_
              have HB := n3_
              clear n0_ n1_ n2_ n3_
              refine start_ (n := 5) (S := fun w' => w'.cell? ⟨gb436, 0, none⟩ = some (.int .i64 a1_0) ∧ w'.cell? ⟨gb436, 1, none⟩ = some (.bool a1_1) ∧ w'.cell? ⟨gb436, 2, none⟩ = some (.int .u64 a1_2) ∧ w'.cell? ⟨gb436, 3, none⟩ = some (.int .i64 a1_3) ∧ w'.cell? ⟨gb436, 4, none⟩ = some (.string a1_4)) (ds := []) #[false, false, false, false, false] (by kernel_rfl) rfl rfl ⟨(blk_cell BK436.out 0).trans rfl, (blk_cell BK436.out 1).trans rfl, (blk_cell BK436.out 2).trans rfl, (blk_cell BK436.out 3).trans rfl, (blk_cell BK436.out 4).trans rfl⟩ (fun hHeld => ?_)
              generalize w42.drew = w43 at BK436 HI0 HK HB hHeld ⊢
              refine pure_ (i := 0) (N := some 5) (v := ?_) (a' := ?_) #[true, false, false, false, false] rfl rfl (by kernel_rfl) (fun _ _ _ h => h) (Or.inl ⟨by rfl, ?_⟩) ?_ ?_
              rotate_left
              · intro w'
                go_simp
                with_reducible rfl
              rotate_left
              · simp only [Act.put, List.setIfInBounds_toArray, List.set_cons_zero, List.set_cons_succ, i64_w, i32_w]
                rfl
              refine pure_ (i := 2) (N := some 7) (v := ?_) (a' := ?_) #[true, false, true, false, false] rfl rfl (by kernel_rfl) (fun _ _ _ h => h) (Or.inl ⟨by rfl, ?_⟩) ?_ ?_
              rotate_left
              · intro w'
                go_simp
                with_reducible rfl
              rotate_left
              · simp only [Act.put, List.setIfInBounds_toArray, List.set_cons_zero, List.set_cons_succ, i64_w, i32_w]
                rfl
              refine take_ (i := 3) (N := some 8) (v := ?_) (a' := ?_) #[true, false, true, true, false] rfl rfl (by kernel_rfl) (fun _ _ _ h => h) (Or.inl ⟨by rfl, ?_⟩) hHeld ?_ ?_
              rotate_left
              · rintro w' ⟨s0, s1, s2, s3, s4⟩
                go_simp
                with_reducible rfl
              rotate_left
              · simp only [Act.put, List.setIfInBounds_toArray, List.set_cons_zero, List.set_cons_succ, i64_w, i32_w]
                rfl
              refine one_ (i := 1) (N := some 6) #[true, true, true, true, false] rfl rfl (by kernel_rfl) (by decide) (fun K hK => ?_)
              refine goes_ Tryd.func22 (by kernel_rfl) rfl #[.pointer (some ⟨g, 0, none⟩)] (by rfl) rfl rfl (by (try simp only [List.map_toArray, List.map_cons, List.map_nil]); first | done | rfl | (simp only [List.length_drop, List.length_take]; rfl)) ?_
              with_reducible refine (codec_Reader_Kind.calls k g s0_0 s0_1 s0_2 t437 t438 t439 t440 w0 _ ?side99  ?side1 ?side2 A3.out).mono ?_
              (case side1 => repeat (first | (with_reducible first | exact HI0.out | apply IsS78.alloc | apply IsS78.drewN | apply IsS78.drew | apply IsS78.set_0 | apply IsS78.set_1 | apply IsS78.set_2 | refine IsS78.far ?_ NB0_436.out _) | exact HI0.out))
              (case side2 => repeat (first | (with_reducible first | exact HB.out | apply below_alloc | apply pw_below_drewN | apply below_drew1 | refine below_set ?_ (IsS78.ge HI0.out) | refine below_set ?_ GE436.out) | exact HB.out))
              (case side99 => exact HG.out)
              rintro e w44 ⟨rfl, hi, hb, hk⟩
              refine ⟨_, rfl, ?_⟩
              have n0_ := Aside0.mk (KeepBut.blk hk (g' := gb436) (o := .cells #[.int .i64 a1_0, .bool a1_1, .int .u64 a1_2, .int .i64 a1_3, .string a1_4] 43 (0, 0)) (by (with_reducible repeat (first | refine blk_drewN ?_ _ | refine blk_drew ?_ | refine blk_alloc ?_ _)); exact BK436.out) NB436_0.out (by simp))
              have n1_ := Aside0.mk (KeepBut.trans (by repeat (first | (with_reducible first | exact HK.out | apply KeepBut.set_ | apply keep_drewN | apply keep_drew | apply keep_alloc | refine keep_far ?_ GW436.out _) | exact HK.out)) hk (.inl rfl))
              have n2_ := Aside0.mk (hb)
              have n3_ := Aside0.mk (hi)
              clear BK436
              clear HK
              clear HB
              clear HI0
              have BK436 := n0_
              have HK := n1_
              have HB := n2_
              have HI0 := n3_
              clear n0_ n1_ n2_ n3_
              (try clear hb)
              (try clear hb2)
              (try clear hk)
              (try clear hi)
              refine hK.out _ _ ⟨(blk_cell BK436.out 0).trans rfl, (blk_cell BK436.out 1).trans rfl, (blk_cell BK436.out 2).trans rfl, (blk_cell BK436.out 3).trans rfl, (blk_cell BK436.out 4).trans rfl⟩ (fun hHeld => ?_)
              clear hK K
              refine norm_ (a' := ?_) ?_ ?_
              rotate_left
              · show Act.put _ (some 6) _ = _
                simp only [Act.put, List.setIfInBounds_toArray, List.set_cons_zero, List.set_cons_succ, i64_w, i32_w]
                rfl
              refine pure_ (i := 4) (N := some 9) (v := ?_) (a' := ?_) #[true, true, true, true, true] rfl rfl (by kernel_rfl) (fun _ _ _ h => h) (Or.inl ⟨by rfl, ?_⟩) ?_ ?_
              rotate_left
              · intro w'
                go_simp
                with_reducible rfl
              rotate_left
              · simp only [Act.put, List.setIfInBounds_toArray, List.set_cons_zero, List.set_cons_succ, i64_w, i32_w]
                rfl
              refine done_ (by kernel_rfl) ?_
              have hnb45 := NB436_0.out
              have hnc45 := NB0_436.out
              have hcz46_0 : w44.cell? ⟨gb436, 0, none⟩ = some (.int .i64 a1_0) := (blk_cell BK436.out 0).trans rfl
              have hcz46_1 : w44.cell? ⟨gb436, 1, none⟩ = some (.bool a1_1) := (blk_cell BK436.out 1).trans rfl
              have hcz46_2 : w44.cell? ⟨gb436, 2, none⟩ = some (.int .u64 a1_2) := (blk_cell BK436.out 2).trans rfl
              have hcz46_3 : w44.cell? ⟨gb436, 3, none⟩ = some (.int .i64 a1_3) := (blk_cell BK436.out 3).trans rfl
              have hcz46_4 : w44.cell? ⟨gb436, 4, none⟩ = some (.string a1_4) := (blk_cell BK436.out 4).trans rfl
              have hfz46_0 := blk_frozen BK436.out 0
              have hfz46_1 := blk_frozen BK436.out 1
              have hfz46_2 := blk_frozen BK436.out 2
              have hfz46_3 := blk_frozen BK436.out 3
              have hfz46_4 := blk_frozen BK436.out 4
              try go_wp2
              have n0_ := Aside0.mk (blk_drew BK436.out)
              have n1_ := Aside0.mk (IsS78.drew HI0.out)
              have n2_ := Aside0.mk (keep_drew HK.out)
              have n3_ := Aside0.mk (below_drew1 HB.out)
              clear BK436
              clear HI0
              clear HK
              clear HB
              have BK436 := n0_
              have HI0 := n1_
              have HK := n2_
              have HB := n3_
              clear n0_ n1_ n2_ n3_
              refine start_ (n := 6) (S := fun w' => w'.cell? ⟨gb436, 0, none⟩ = some (.int .i64 a1_0) ∧ w'.cell? ⟨gb436, 1, none⟩ = some (.bool a1_1) ∧ w'.cell? ⟨gb436, 2, none⟩ = some (.int .u64 a1_2) ∧ w'.cell? ⟨gb436, 3, none⟩ = some (.int .i64 a1_3) ∧ w'.cell? ⟨gb436, 4, none⟩ = some (.string a1_4)) (ds := []) #[false, false, false, false, false, false] (by kernel_rfl) rfl rfl ⟨(blk_cell BK436.out 0).trans rfl, (blk_cell BK436.out 1).trans rfl, (blk_cell BK436.out 2).trans rfl, (blk_cell BK436.out 3).trans rfl, (blk_cell BK436.out 4).trans rfl⟩ (fun hHeld => ?_)
              generalize w44.drew = w47 at BK436 HI0 HK HB hHeld ⊢
              refine pure_ (i := 0) (N := some 39) (v := ?_) (a' := ?_) #[true, false, false, false, false, false] rfl rfl (by kernel_rfl) (fun _ _ _ h => h) (Or.inl ⟨by rfl, ?_⟩) ?_ ?_
              rotate_left
              · intro w'
                go_simp
                with_reducible rfl
              rotate_left
              · simp only [Act.put, List.setIfInBounds_toArray, List.set_cons_zero, List.set_cons_succ, i64_w, i32_w]
                rfl
              refine pure_ (i := 2) (N := some 41) (v := ?_) (a' := ?_) #[true, false, true, false, false, false] rfl rfl (by kernel_rfl) (fun _ _ _ h => h) (Or.inl ⟨by rfl, ?_⟩) ?_ ?_
              rotate_left
              · intro w'
                go_simp
                with_reducible rfl
              rotate_left
              · simp only [Act.put, List.setIfInBounds_toArray, List.set_cons_zero, List.set_cons_succ, i64_w, i32_w]
                rfl
              refine take_ (i := 3) (N := some 42) (v := ?_) (a' := ?_) #[true, false, true, true, false, false] rfl rfl (by kernel_rfl) (fun _ _ _ h => h) (Or.inl ⟨by rfl, ?_⟩) hHeld ?_ ?_
              rotate_left
              · rintro w' ⟨s0, s1, s2, s3, s4⟩
                go_simp
                with_reducible rfl
              rotate_left
              · simp only [Act.put, List.setIfInBounds_toArray, List.set_cons_zero, List.set_cons_succ, i64_w, i32_w]
                rfl
              refine one_ (i := 1) (N := some 40) #[true, true, true, true, false, false] rfl rfl (by kernel_rfl) (by decide) (fun K hK => ?_)
              refine goes_ Tryd.func28 (by kernel_rfl) rfl #[.pointer (some ⟨g, 0, none⟩)] (by rfl) rfl rfl (by (try simp only [List.map_toArray, List.map_cons, List.map_nil]); first | done | rfl | (simp only [List.length_drop, List.length_take]; rfl)) ?_
              with_reducible refine (codec_Reader_Text.calls k g t438 t439 t440 t456 t457 t458 t459 w0 _ ?side99  ?side1 ?side2 A41.out).mono ?_
              (case side1 => repeat (first | (with_reducible first | exact HI0.out | apply IsS78.alloc | apply IsS78.drewN | apply IsS78.drew | apply IsS78.set_0 | apply IsS78.set_1 | apply IsS78.set_2 | refine IsS78.far ?_ NB0_436.out _) | exact HI0.out))
              (case side2 => repeat (first | (with_reducible first | exact HB.out | apply below_alloc | apply pw_below_drewN | apply below_drew1 | refine below_set ?_ (IsS78.ge HI0.out) | refine below_set ?_ GE436.out) | exact HB.out))
              (case side99 => exact HG.out)
              rintro e w48 ⟨rfl, hi, hb, hk⟩
              refine ⟨_, rfl, ?_⟩
              have n0_ := Aside0.mk (KeepBut.blk hk (g' := gb436) (o := .cells #[.int .i64 a1_0, .bool a1_1, .int .u64 a1_2, .int .i64 a1_3, .string a1_4] 43 (0, 0)) (by (with_reducible repeat (first | refine blk_drewN ?_ _ | refine blk_drew ?_ | refine blk_alloc ?_ _)); exact BK436.out) NB436_0.out (by simp))
              have n1_ := Aside0.mk (KeepBut.trans (by repeat (first | (with_reducible first | exact HK.out | apply KeepBut.set_ | apply keep_drewN | apply keep_drew | apply keep_alloc | refine keep_far ?_ GW436.out _) | exact HK.out)) hk (.inl rfl))
              have n2_ := Aside0.mk (hb)
              have n3_ := Aside0.mk (hi)
              clear BK436
              clear HK
              clear HB
              clear HI0
              have BK436 := n0_
              have HK := n1_
              have HB := n2_
              have HI0 := n3_
              clear n0_ n1_ n2_ n3_
              (try clear hb)
              (try clear hb2)
              (try clear hk)
              (try clear hi)
              refine hK.out _ _ ⟨(blk_cell BK436.out 0).trans rfl, (blk_cell BK436.out 1).trans rfl, (blk_cell BK436.out 2).trans rfl, (blk_cell BK436.out 3).trans rfl, (blk_cell BK436.out 4).trans rfl⟩ (fun hHeld => ?_)
              clear hK K
              refine norm_ (a' := ?_) ?_ ?_
              rotate_left
              · show Act.put _ (some 40) _ = _
                simp only [Act.put, List.setIfInBounds_toArray, List.set_cons_zero, List.set_cons_succ, i64_w, i32_w]
                rfl
              refine pure_ (i := 4) (N := some 43) (v := ?_) (a' := ?_) #[true, true, true, true, true, false] rfl rfl (by kernel_rfl) (fun _ _ _ h => h) (Or.inl ⟨by rfl, ?_⟩) ?_ ?_
              rotate_left
              · intro w'
                go_simp
                with_reducible rfl
              rotate_left
              · simp only [Act.put, List.setIfInBounds_toArray, List.set_cons_zero, List.set_cons_succ, i64_w, i32_w]
                rfl
              refine pure_ (i := 5) (N := some 4) (v := ?_) (a' := ?_) #[true, true, true, true, true, true] rfl rfl (by kernel_rfl) (fun _ _ _ h => h) (Or.inl ⟨by rfl, ?_⟩) ?_ ?_
              rotate_left
              · intro w'
                go_simp
                with_reducible rfl
              rotate_left
              · simp only [Act.put, List.setIfInBounds_toArray, List.set_cons_zero, List.set_cons_succ, i64_w, i32_w]
                rfl
              refine done_ (by kernel_rfl) ?_
              try go_wp2
              go_ret
              exact ⟨by first | rfl | (simp [errW_none, errW_some] <;> rfl) | (simp [*, errW_none, errW_some] <;> rfl), by repeat (first | (with_reducible first | exact HI0.out | apply IsS78.alloc | apply IsS78.drewN | apply IsS78.drew | apply IsS78.set_0 | apply IsS78.set_1 | apply IsS78.set_2 | refine IsS78.far ?_ NB0_436.out _) | exact HI0.out), by repeat (first | (with_reducible first | exact HB.out | apply below_alloc | apply pw_below_drewN | apply below_drew1 | refine below_set ?_ (IsS78.ge HI0.out) | refine below_set ?_ GE436.out) | exact HB.out), by repeat (first | (with_reducible first | exact HK.out | apply KeepBut.set_ | apply keep_drewN | apply keep_drew | apply keep_alloc | refine keep_far ?_ GW436.out _) | exact HK.out)⟩
            · rw [if_neg c40] at H
              have c40b0 : (a1_0 == 5) = false := beq_eq_false_iff_ne.mpr c40
              have c40b1 : (a1_0 != 5) = true := bne_iff_ne.mpr c40
              replace H := Option.bind_eq_some_iff.mp H
              obtain ⟨⟨t460, t461, t462, t463⟩, A490, H⟩ := H
              replace H : (some ((t460 == a1_3), t461, t462, t463)) = some (r1, r2, r3, r4) := H
              have A49 := Aside0.mk A490
              clear A490
              simp only [Option.some.injEq, Prod.mk.injEq] at H
              obtain ⟨rfl, rfl, rfl, rfl⟩ := H
              go_enter Tryd.func32, Tryd.ntmps32
              try go_wp2_with (first | ((with_reducible refine gate_dst (N := 3) rfl ?_); refine box_event ?hg (N := 3) ?hd (cs := #[.int .i64 a1_0, .bool a1_1, .int .u64 a1_2, .int .i64 a1_3, .string a1_4]) (t := 43) ?hr ?_; (case hd => rfl); (case hg => rfl); (case hr => first | (go_simp; done) | (go_simp; rfl)); intro gb436 hg w50 hbox hb; have n0_ := Aside0.mk (IsS78.below (by repeat (first | (with_reducible first | exact HI0.out | apply IsS78.alloc | apply IsS78.drewN | apply IsS78.drew | apply IsS78.set_0 | apply IsS78.set_1 | apply IsS78.set_2) | exact HI0.out)) hb); have n1_ := Aside0.mk (KeepBut.trans (by repeat (first | (with_reducible first | exact HK.out | apply KeepBut.set_ | apply keep_drewN | apply keep_drew | apply keep_alloc) | exact HK.out)) (KeepBut.of_below hb g none) (.inl rfl)); have n2_ := Aside0.mk (below_step (by repeat (first | (with_reducible first | exact HB.out | apply below_alloc | apply pw_below_drewN | apply below_drew1 | refine below_set ?_ (IsS78.ge HI0.out)) | exact HB.out)) hb); have n3_ := Aside0.mk (hbox); have n4_ := Aside0.mk ((by rw [hg]; exact (keep_size (w := w) (g := g) (row := none) (by repeat (first | (with_reducible first | exact HK.out | apply KeepBut.set_ | apply keep_drewN | apply keep_drew | apply keep_alloc) | exact HK.out))) : w.heap.size ≤ gb436)); have n5_ := Aside0.mk ((Nat.le_trans HW0.out (by rw [hg]; exact (keep_size (w := w) (g := g) (row := none) (by repeat (first | (with_reducible first | exact HK.out | apply KeepBut.set_ | apply keep_drewN | apply keep_drew | apply keep_alloc) | exact HK.out))) : w.heap.size ≤ gb436) : w0.heap.size ≤ gb436)); have n6_ := Aside0.mk ((by rw [hg]; exact Nat.ne_of_lt (IsS78.lt (show IsS78 w0 _ g s0_0 s0_1 s0_2 from by repeat (first | (with_reducible first | exact HI0.out | apply IsS78.alloc | apply IsS78.drewN | apply IsS78.drew | apply IsS78.set_0 | apply IsS78.set_1 | apply IsS78.set_2) | exact HI0.out))) : g ≠ gb436)); have n7_ := Aside0.mk ((by rw [hg]; exact Nat.ne_of_gt (IsS78.lt (show IsS78 w0 _ g s0_0 s0_1 s0_2 from by repeat (first | (with_reducible first | exact HI0.out | apply IsS78.alloc | apply IsS78.drewN | apply IsS78.drew | apply IsS78.set_0 | apply IsS78.set_1 | apply IsS78.set_2) | exact HI0.out))) : gb436 ≠ g)); clear HI0; clear HK; clear HB; have HI0 := n0_; have HK := n1_; have HB := n2_; have BK436 := n3_; have GW436 := n4_; have GE436 := n5_; have NB0_436 := n6_; have NB436_0 := n7_; clear n0_ n1_ n2_ n3_ n4_ n5_ n6_ n7_; clear hb hbox hg))
              have n0_ := Aside0.mk (blk_drew BK436.out)
              have n1_ := Aside0.mk (IsS78.drew HI0.out)
              have n2_ := Aside0.mk (keep_drew HK.out)
              have n3_ := Aside0.mk (below_drew1 HB.out)
              clear BK436
              clear HI0
              clear HK
              clear HB
              have BK436 := n0_
              have HI0 := n1_
              have HK := n2_
              have HB := n3_
              clear n0_ n1_ n2_ n3_
              refine start_ (n := 5) (S := fun w' => w'.cell? ⟨gb436, 0, none⟩ = some (.int .i64 a1_0) ∧ w'.cell? ⟨gb436, 1, none⟩ = some (.bool a1_1) ∧ w'.cell? ⟨gb436, 2, none⟩ = some (.int .u64 a1_2) ∧ w'.cell? ⟨gb436, 3, none⟩ = some (.int .i64 a1_3) ∧ w'.cell? ⟨gb436, 4, none⟩ = some (.string a1_4)) (ds := []) #[false, false, false, false, false] (by kernel_rfl) rfl rfl ⟨(blk_cell BK436.out 0).trans rfl, (blk_cell BK436.out 1).trans rfl, (blk_cell BK436.out 2).trans rfl, (blk_cell BK436.out 3).trans rfl, (blk_cell BK436.out 4).trans rfl⟩ (fun hHeld => ?_)
              generalize w50.drew = w51 at BK436 HI0 HK HB hHeld ⊢
              refine pure_ (i := 0) (N := some 5) (v := ?_) (a' := ?_) #[true, false, false, false, false] rfl rfl (by kernel_rfl) (fun _ _ _ h => h) (Or.inl ⟨by rfl, ?_⟩) ?_ ?_
              rotate_left
              · intro w'
                go_simp
                with_reducible rfl
              rotate_left
              · simp only [Act.put, List.setIfInBounds_toArray, List.set_cons_zero, List.set_cons_succ, i64_w, i32_w]
                rfl
              refine pure_ (i := 2) (N := some 7) (v := ?_) (a' := ?_) #[true, false, true, false, false] rfl rfl (by kernel_rfl) (fun _ _ _ h => h) (Or.inl ⟨by rfl, ?_⟩) ?_ ?_
              rotate_left
              · intro w'
                go_simp
                with_reducible rfl
              rotate_left
              · simp only [Act.put, List.setIfInBounds_toArray, List.set_cons_zero, List.set_cons_succ, i64_w, i32_w]
                rfl
              refine take_ (i := 3) (N := some 8) (v := ?_) (a' := ?_) #[true, false, true, true, false] rfl rfl (by kernel_rfl) (fun _ _ _ h => h) (Or.inl ⟨by rfl, ?_⟩) hHeld ?_ ?_
              rotate_left
              · rintro w' ⟨s0, s1, s2, s3, s4⟩
                go_simp
                with_reducible rfl
              rotate_left
              · simp only [Act.put, List.setIfInBounds_toArray, List.set_cons_zero, List.set_cons_succ, i64_w, i32_w]
                rfl
              refine one_ (i := 1) (N := some 6) #[true, true, true, true, false] rfl rfl (by kernel_rfl) (by decide) (fun K hK => ?_)
              refine goes_ Tryd.func22 (by kernel_rfl) rfl #[.pointer (some ⟨g, 0, none⟩)] (by rfl) rfl rfl (by (try simp only [List.map_toArray, List.map_cons, List.map_nil]); first | done | rfl | (simp only [List.length_drop, List.length_take]; rfl)) ?_
              with_reducible refine (codec_Reader_Kind.calls k g s0_0 s0_1 s0_2 t437 t438 t439 t440 w0 _ ?side99  ?side1 ?side2 A3.out).mono ?_
              (case side1 => repeat (first | (with_reducible first | exact HI0.out | apply IsS78.alloc | apply IsS78.drewN | apply IsS78.drew | apply IsS78.set_0 | apply IsS78.set_1 | apply IsS78.set_2 | refine IsS78.far ?_ NB0_436.out _) | exact HI0.out))
              (case side2 => repeat (first | (with_reducible first | exact HB.out | apply below_alloc | apply pw_below_drewN | apply below_drew1 | refine below_set ?_ (IsS78.ge HI0.out) | refine below_set ?_ GE436.out) | exact HB.out))
              (case side99 => exact HG.out)
              rintro e w52 ⟨rfl, hi, hb, hk⟩
              refine ⟨_, rfl, ?_⟩
              have n0_ := Aside0.mk (KeepBut.blk hk (g' := gb436) (o := .cells #[.int .i64 a1_0, .bool a1_1, .int .u64 a1_2, .int .i64 a1_3, .string a1_4] 43 (0, 0)) (by (with_reducible repeat (first | refine blk_drewN ?_ _ | refine blk_drew ?_ | refine blk_alloc ?_ _)); exact BK436.out) NB436_0.out (by simp))
              have n1_ := Aside0.mk (KeepBut.trans (by repeat (first | (with_reducible first | exact HK.out | apply KeepBut.set_ | apply keep_drewN | apply keep_drew | apply keep_alloc | refine keep_far ?_ GW436.out _) | exact HK.out)) hk (.inl rfl))
              have n2_ := Aside0.mk (hb)
              have n3_ := Aside0.mk (hi)
              clear BK436
              clear HK
              clear HB
              clear HI0
              have BK436 := n0_
              have HK := n1_
              have HB := n2_
              have HI0 := n3_
              clear n0_ n1_ n2_ n3_
              (try clear hb)
              (try clear hb2)
              (try clear hk)
              (try clear hi)
              refine hK.out _ _ ⟨(blk_cell BK436.out 0).trans rfl, (blk_cell BK436.out 1).trans rfl, (blk_cell BK436.out 2).trans rfl, (blk_cell BK436.out 3).trans rfl, (blk_cell BK436.out 4).trans rfl⟩ (fun hHeld => ?_)
              clear hK K
              refine norm_ (a' := ?_) ?_ ?_
              rotate_left
              · show Act.put _ (some 6) _ = _
                simp only [Act.put, List.setIfInBounds_toArray, List.set_cons_zero, List.set_cons_succ, i64_w, i32_w]
                rfl
              refine pure_ (i := 4) (N := some 9) (v := ?_) (a' := ?_) #[true, true, true, true, true] rfl rfl (by kernel_rfl) (fun _ _ _ h => h) (Or.inl ⟨by rfl, ?_⟩) ?_ ?_
              rotate_left
              · intro w'
                go_simp
                with_reducible rfl
              rotate_left
              · simp only [Act.put, List.setIfInBounds_toArray, List.set_cons_zero, List.set_cons_succ, i64_w, i32_w]
                rfl
              refine done_ (by kernel_rfl) ?_
              have hnb53 := NB436_0.out
              have hnc53 := NB0_436.out
              have hcz54_0 : w52.cell? ⟨gb436, 0, none⟩ = some (.int .i64 a1_0) := (blk_cell BK436.out 0).trans rfl
              have hcz54_1 : w52.cell? ⟨gb436, 1, none⟩ = some (.bool a1_1) := (blk_cell BK436.out 1).trans rfl
              have hcz54_2 : w52.cell? ⟨gb436, 2, none⟩ = some (.int .u64 a1_2) := (blk_cell BK436.out 2).trans rfl
              have hcz54_3 : w52.cell? ⟨gb436, 3, none⟩ = some (.int .i64 a1_3) := (blk_cell BK436.out 3).trans rfl
              have hcz54_4 : w52.cell? ⟨gb436, 4, none⟩ = some (.string a1_4) := (blk_cell BK436.out 4).trans rfl
              have hfz54_0 := blk_frozen BK436.out 0
              have hfz54_1 := blk_frozen BK436.out 1
              have hfz54_2 := blk_frozen BK436.out 2
              have hfz54_3 := blk_frozen BK436.out 3
              have hfz54_4 := blk_frozen BK436.out 4
              try go_wp2
              have n0_ := Aside0.mk (blk_drew BK436.out)
              have n1_ := Aside0.mk (IsS78.drew HI0.out)
              have n2_ := Aside0.mk (keep_drew HK.out)
              have n3_ := Aside0.mk (below_drew1 HB.out)
              clear BK436
              clear HI0
              clear HK
              clear HB
              have BK436 := n0_
              have HI0 := n1_
              have HK := n2_
              have HB := n3_
              clear n0_ n1_ n2_ n3_
              refine start_ (n := 6) (S := fun w' => w'.cell? ⟨gb436, 0, none⟩ = some (.int .i64 a1_0) ∧ w'.cell? ⟨gb436, 1, none⟩ = some (.bool a1_1) ∧ w'.cell? ⟨gb436, 2, none⟩ = some (.int .u64 a1_2) ∧ w'.cell? ⟨gb436, 3, none⟩ = some (.int .i64 a1_3) ∧ w'.cell? ⟨gb436, 4, none⟩ = some (.string a1_4)) (ds := []) #[false, false, false, false, false, false] (by kernel_rfl) rfl rfl ⟨(blk_cell BK436.out 0).trans rfl, (blk_cell BK436.out 1).trans rfl, (blk_cell BK436.out 2).trans rfl, (blk_cell BK436.out 3).trans rfl, (blk_cell BK436.out 4).trans rfl⟩ (fun hHeld => ?_)
              generalize w52.drew = w55 at BK436 HI0 HK HB hHeld ⊢
              refine pure_ (i := 0) (N := some 44) (v := ?_) (a' := ?_) #[true, false, false, false, false, false] rfl rfl (by kernel_rfl) (fun _ _ _ h => h) (Or.inl ⟨by rfl, ?_⟩) ?_ ?_
              rotate_left
              · intro w'
                go_simp
                with_reducible rfl
              rotate_left
              · simp only [Act.put, List.setIfInBounds_toArray, List.set_cons_zero, List.set_cons_succ, i64_w, i32_w]
                rfl
              refine pure_ (i := 2) (N := some 46) (v := ?_) (a' := ?_) #[true, false, true, false, false, false] rfl rfl (by kernel_rfl) (fun _ _ _ h => h) (Or.inl ⟨by rfl, ?_⟩) ?_ ?_
              rotate_left
              · intro w'
                go_simp
                with_reducible rfl
              rotate_left
              · simp only [Act.put, List.setIfInBounds_toArray, List.set_cons_zero, List.set_cons_succ, i64_w, i32_w]
                rfl
              refine take_ (i := 3) (N := some 47) (v := ?_) (a' := ?_) #[true, false, true, true, false, false] rfl rfl (by kernel_rfl) (fun _ _ _ h => h) (Or.inl ⟨by rfl, ?_⟩) hHeld ?_ ?_
              rotate_left
              · rintro w' ⟨s0, s1, s2, s3, s4⟩
                go_simp
                with_reducible rfl
              rotate_left
              · simp only [Act.put, List.setIfInBounds_toArray, List.set_cons_zero, List.set_cons_succ, i64_w, i32_w]
                rfl
              refine one_ (i := 1) (N := some 45) #[true, true, true, true, false, false] rfl rfl (by kernel_rfl) (by decide) (fun K hK => ?_)
              refine goes_ Tryd.func29 (by kernel_rfl) rfl #[.pointer (some ⟨g, 0, none⟩)] (by rfl) rfl rfl (by (try simp only [List.map_toArray, List.map_cons, List.map_nil]); first | done | rfl | (simp only [List.length_drop, List.length_take]; rfl)) ?_
              with_reducible refine (codec_Reader_List.calls k g t438 t439 t440 t460 t461 t462 t463 w0 _ ?side99  ?side1 ?side2 A49.out).mono ?_
              (case side1 => repeat (first | (with_reducible first | exact HI0.out | apply IsS78.alloc | apply IsS78.drewN | apply IsS78.drew | apply IsS78.set_0 | apply IsS78.set_1 | apply IsS78.set_2 | refine IsS78.far ?_ NB0_436.out _) | exact HI0.out))
              (case side2 => repeat (first | (with_reducible first | exact HB.out | apply below_alloc | apply pw_below_drewN | apply below_drew1 | refine below_set ?_ (IsS78.ge HI0.out) | refine below_set ?_ GE436.out) | exact HB.out))
              (case side99 => exact HG.out)
              rintro e w56 ⟨rfl, hi, hb, hk⟩
              refine ⟨_, rfl, ?_⟩
              have n0_ := Aside0.mk (KeepBut.blk hk (g' := gb436) (o := .cells #[.int .i64 a1_0, .bool a1_1, .int .u64 a1_2, .int .i64 a1_3, .string a1_4] 43 (0, 0)) (by (with_reducible repeat (first | refine blk_drewN ?_ _ | refine blk_drew ?_ | refine blk_alloc ?_ _)); exact BK436.out) NB436_0.out (by simp))
              have n1_ := Aside0.mk (KeepBut.trans (by repeat (first | (with_reducible first | exact HK.out | apply KeepBut.set_ | apply keep_drewN | apply keep_drew | apply keep_alloc | refine keep_far ?_ GW436.out _) | exact HK.out)) hk (.inl rfl))
              have n2_ := Aside0.mk (hb)
              have n3_ := Aside0.mk (hi)
              clear BK436
              clear HK
              clear HB
              clear HI0
              have BK436 := n0_
              have HK := n1_
              have HB := n2_
              have HI0 := n3_
              clear n0_ n1_ n2_ n3_
              (try clear hb)
              (try clear hb2)
              (try clear hk)
              (try clear hi)
              refine hK.out _ _ ⟨(blk_cell BK436.out 0).trans rfl, (blk_cell BK436.out 1).trans rfl, (blk_cell BK436.out 2).trans rfl, (blk_cell BK436.out 3).trans rfl, (blk_cell BK436.out 4).trans rfl⟩ (fun hHeld => ?_)
              clear hK K
              refine norm_ (a' := ?_) ?_ ?_
              rotate_left
              · show Act.put _ (some 45) _ = _
                simp only [Act.put, List.setIfInBounds_toArray, List.set_cons_zero, List.set_cons_succ, i64_w, i32_w]
                rfl
              refine pure_ (i := 4) (N := some 48) (v := ?_) (a' := ?_) #[true, true, true, true, true, false] rfl rfl (by kernel_rfl) (fun _ _ _ h => h) (Or.inl ⟨by rfl, ?_⟩) ?_ ?_
              rotate_left
              · intro w'
                go_simp
                with_reducible rfl
              rotate_left
              · simp only [Act.put, List.setIfInBounds_toArray, List.set_cons_zero, List.set_cons_succ, i64_w, i32_w]
                rfl
              refine pure_ (i := 5) (N := some 4) (v := ?_) (a' := ?_) #[true, true, true, true, true, true] rfl rfl (by kernel_rfl) (fun _ _ _ h => h) (Or.inl ⟨by rfl, ?_⟩) ?_ ?_
              rotate_left
              · intro w'
                go_simp
                with_reducible rfl
              rotate_left
              · simp only [Act.put, List.setIfInBounds_toArray, List.set_cons_zero, List.set_cons_succ, i64_w, i32_w]
                rfl
              refine done_ (by kernel_rfl) ?_
              try go_wp2
              go_ret
              exact ⟨by first | rfl | (simp [errW_none, errW_some] <;> rfl) | (simp [*, errW_none, errW_some] <;> rfl), by repeat (first | (with_reducible first | exact HI0.out | apply IsS78.alloc | apply IsS78.drewN | apply IsS78.drew | apply IsS78.set_0 | apply IsS78.set_1 | apply IsS78.set_2 | refine IsS78.far ?_ NB0_436.out _) | exact HI0.out), by repeat (first | (with_reducible first | exact HB.out | apply below_alloc | apply pw_below_drewN | apply below_drew1 | refine below_set ?_ (IsS78.ge HI0.out) | refine below_set ?_ GE436.out) | exact HB.out), by repeat (first | (with_reducible first | exact HK.out | apply KeepBut.set_ | apply keep_drewN | apply keep_drew | apply keep_alloc | refine keep_far ?_ GW436.out _) | exact HK.out)⟩
  · rw [if_neg c4] at H
    have c4b0 : (t437 == a1_0) = false := beq_eq_false_iff_ne.mpr c4
    have c4b1 : (t437 != a1_0) = true := bne_iff_ne.mpr c4
    simp only [Option.some.injEq, Prod.mk.injEq] at H
    obtain ⟨rfl, rfl, rfl, rfl⟩ := H
    go_enter Tryd.func32, Tryd.ntmps32
    try go_wp2_with (first | ((with_reducible refine gate_dst (N := 3) rfl ?_); refine box_event ?hg (N := 3) ?hd (cs := #[.int .i64 a1_0, .bool a1_1, .int .u64 a1_2, .int .i64 a1_3, .string a1_4]) (t := 43) ?hr ?_; (case hd => rfl); (case hg => rfl); (case hr => first | (go_simp; done) | (go_simp; rfl)); intro gb436 hg w57 hbox hb; have n0_ := Aside0.mk (IsS78.below (by repeat (first | (with_reducible first | exact HI0.out | apply IsS78.alloc | apply IsS78.drewN | apply IsS78.drew | apply IsS78.set_0 | apply IsS78.set_1 | apply IsS78.set_2) | exact HI0.out)) hb); have n1_ := Aside0.mk (KeepBut.trans (by repeat (first | (with_reducible first | exact HK.out | apply KeepBut.set_ | apply keep_drewN | apply keep_drew | apply keep_alloc) | exact HK.out)) (KeepBut.of_below hb g none) (.inl rfl)); have n2_ := Aside0.mk (below_step (by repeat (first | (with_reducible first | exact HB.out | apply below_alloc | apply pw_below_drewN | apply below_drew1 | refine below_set ?_ (IsS78.ge HI0.out)) | exact HB.out)) hb); have n3_ := Aside0.mk (hbox); have n4_ := Aside0.mk ((by rw [hg]; exact (keep_size (w := w) (g := g) (row := none) (by repeat (first | (with_reducible first | exact HK.out | apply KeepBut.set_ | apply keep_drewN | apply keep_drew | apply keep_alloc) | exact HK.out))) : w.heap.size ≤ gb436)); have n5_ := Aside0.mk ((Nat.le_trans HW0.out (by rw [hg]; exact (keep_size (w := w) (g := g) (row := none) (by repeat (first | (with_reducible first | exact HK.out | apply KeepBut.set_ | apply keep_drewN | apply keep_drew | apply keep_alloc) | exact HK.out))) : w.heap.size ≤ gb436) : w0.heap.size ≤ gb436)); have n6_ := Aside0.mk ((by rw [hg]; exact Nat.ne_of_lt (IsS78.lt (show IsS78 w0 _ g s0_0 s0_1 s0_2 from by repeat (first | (with_reducible first | exact HI0.out | apply IsS78.alloc | apply IsS78.drewN | apply IsS78.drew | apply IsS78.set_0 | apply IsS78.set_1 | apply IsS78.set_2) | exact HI0.out))) : g ≠ gb436)); have n7_ := Aside0.mk ((by rw [hg]; exact Nat.ne_of_gt (IsS78.lt (show IsS78 w0 _ g s0_0 s0_1 s0_2 from by repeat (first | (with_reducible first | exact HI0.out | apply IsS78.alloc | apply IsS78.drewN | apply IsS78.drew | apply IsS78.set_0 | apply IsS78.set_1 | apply IsS78.set_2) | exact HI0.out))) : gb436 ≠ g)); clear HI0; clear HK; clear HB; have HI0 := n0_; have HK := n1_; have HB := n2_; have BK436 := n3_; have GW436 := n4_; have GE436 := n5_; have NB0_436 := n6_; have NB436_0 := n7_; clear n0_ n1_ n2_ n3_ n4_ n5_ n6_ n7_; clear hb hbox hg))
    have n0_ := Aside0.mk (blk_drew BK436.out)
    have n1_ := Aside0.mk (IsS78.drew HI0.out)
    have n2_ := Aside0.mk (keep_drew HK.out)
    have n3_ := Aside0.mk (below_drew1 HB.out)
    clear BK436
    clear HI0
    clear HK
    clear HB
    have BK436 := n0_
    have HI0 := n1_
    have HK := n2_
    have HB := n3_
    clear n0_ n1_ n2_ n3_
    refine start_ (n := 5) (S := fun w' => w'.cell? ⟨gb436, 0, none⟩ = some (.int .i64 a1_0) ∧ w'.cell? ⟨gb436, 1, none⟩ = some (.bool a1_1) ∧ w'.cell? ⟨gb436, 2, none⟩ = some (.int .u64 a1_2) ∧ w'.cell? ⟨gb436, 3, none⟩ = some (.int .i64 a1_3) ∧ w'.cell? ⟨gb436, 4, none⟩ = some (.string a1_4)) (ds := []) #[false, false, false, false, false] (by kernel_rfl) rfl rfl ⟨(blk_cell BK436.out 0).trans rfl, (blk_cell BK436.out 1).trans rfl, (blk_cell BK436.out 2).trans rfl, (blk_cell BK436.out 3).trans rfl, (blk_cell BK436.out 4).trans rfl⟩ (fun hHeld => ?_)
    generalize w57.drew = w58 at BK436 HI0 HK HB hHeld ⊢
    refine pure_ (i := 0) (N := some 5) (v := ?_) (a' := ?_) #[true, false, false, false, false] rfl rfl (by kernel_rfl) (fun _ _ _ h => h) (Or.inl ⟨by rfl, ?_⟩) ?_ ?_
    rotate_left
    · intro w'
      go_simp
      with_reducible rfl
    rotate_left
    · simp only [Act.put, List.setIfInBounds_toArray, List.set_cons_zero, List.set_cons_succ, i64_w, i32_w]
      rfl
    refine pure_ (i := 2) (N := some 7) (v := ?_) (a' := ?_) #[true, false, true, false, false] rfl rfl (by kernel_rfl) (fun _ _ _ h => h) (Or.inl ⟨by rfl, ?_⟩) ?_ ?_
    rotate_left
    · intro w'
      go_simp
      with_reducible rfl
    rotate_left
    · simp only [Act.put, List.setIfInBounds_toArray, List.set_cons_zero, List.set_cons_succ, i64_w, i32_w]
      rfl
    refine take_ (i := 3) (N := some 8) (v := ?_) (a' := ?_) #[true, false, true, true, false] rfl rfl (by kernel_rfl) (fun _ _ _ h => h) (Or.inl ⟨by rfl, ?_⟩) hHeld ?_ ?_
    rotate_left
    · rintro w' ⟨s0, s1, s2, s3, s4⟩
      go_simp
      with_reducible rfl
    rotate_left
    · simp only [Act.put, List.setIfInBounds_toArray, List.set_cons_zero, List.set_cons_succ, i64_w, i32_w]
      rfl
    refine one_ (i := 1) (N := some 6) #[true, true, true, true, false] rfl rfl (by kernel_rfl) (by decide) (fun K hK => ?_)
    refine goes_ Tryd.func22 (by kernel_rfl) rfl #[.pointer (some ⟨g, 0, none⟩)] (by rfl) rfl rfl (by (try simp only [List.map_toArray, List.map_cons, List.map_nil]); first | done | rfl | (simp only [List.length_drop, List.length_take]; rfl)) ?_
    with_reducible refine (codec_Reader_Kind.calls k g s0_0 s0_1 s0_2 t437 t438 t439 t440 w0 _ ?side99  ?side1 ?side2 A3.out).mono ?_
    (case side1 => repeat (first | (with_reducible first | exact HI0.out | apply IsS78.alloc | apply IsS78.drewN | apply IsS78.drew | apply IsS78.set_0 | apply IsS78.set_1 | apply IsS78.set_2 | refine IsS78.far ?_ NB0_436.out _) | exact HI0.out))
    (case side2 => repeat (first | (with_reducible first | exact HB.out | apply below_alloc | apply pw_below_drewN | apply below_drew1 | refine below_set ?_ (IsS78.ge HI0.out) | refine below_set ?_ GE436.out) | exact HB.out))
    (case side99 => exact HG.out)
    rintro e w59 ⟨rfl, hi, hb, hk⟩
    refine ⟨_, rfl, ?_⟩
    have n0_ := Aside0.mk (KeepBut.blk hk (g' := gb436) (o := .cells #[.int .i64 a1_0, .bool a1_1, .int .u64 a1_2, .int .i64 a1_3, .string a1_4] 43 (0, 0)) (by (with_reducible repeat (first | refine blk_drewN ?_ _ | refine blk_drew ?_ | refine blk_alloc ?_ _)); exact BK436.out) NB436_0.out (by simp))
    have n1_ := Aside0.mk (KeepBut.trans (by repeat (first | (with_reducible first | exact HK.out | apply KeepBut.set_ | apply keep_drewN | apply keep_drew | apply keep_alloc | refine keep_far ?_ GW436.out _) | exact HK.out)) hk (.inl rfl))
    have n2_ := Aside0.mk (hb)
    have n3_ := Aside0.mk (hi)
    clear BK436
    clear HK
    clear HB
    clear HI0
    have BK436 := n0_
    have HK := n1_
    have HB := n2_
    have HI0 := n3_
    clear n0_ n1_ n2_ n3_
    (try clear hb)
    (try clear hb2)
    (try clear hk)
    (try clear hi)
    refine hK.out _ _ ⟨(blk_cell BK436.out 0).trans rfl, (blk_cell BK436.out 1).trans rfl, (blk_cell BK436.out 2).trans rfl, (blk_cell BK436.out 3).trans rfl, (blk_cell BK436.out 4).trans rfl⟩ (fun hHeld => ?_)
    clear hK K
    refine norm_ (a' := ?_) ?_ ?_
    rotate_left
    · show Act.put _ (some 6) _ = _
      simp only [Act.put, List.setIfInBounds_toArray, List.set_cons_zero, List.set_cons_succ, i64_w, i32_w]
      rfl
    refine pure_ (i := 4) (N := some 9) (v := ?_) (a' := ?_) #[true, true, true, true, true] rfl rfl (by kernel_rfl) (fun _ _ _ h => h) (Or.inl ⟨by rfl, ?_⟩) ?_ ?_
    rotate_left
    · intro w'
      go_simp
      with_reducible rfl
    rotate_left
    · simp only [Act.put, List.setIfInBounds_toArray, List.set_cons_zero, List.set_cons_succ, i64_w, i32_w]
      rfl
    refine done_ (by kernel_rfl) ?_
    try go_wp2
    go_ret
    exact ⟨by first | rfl | (simp [errW_none, errW_some] <;> rfl) | (simp [*, errW_none, errW_some] <;> rfl), by repeat (first | (with_reducible first | exact HI0.out | apply IsS78.alloc | apply IsS78.drewN | apply IsS78.drew | apply IsS78.set_0 | apply IsS78.set_1 | apply IsS78.set_2 | refine IsS78.far ?_ NB0_436.out _) | exact HI0.out), by repeat (first | (with_reducible first | exact HB.out | apply below_alloc | apply pw_below_drewN | apply below_drew1 | refine below_set ?_ (IsS78.ge HI0.out) | refine below_set ?_ GE436.out) | exact HB.out), by repeat (first | (with_reducible first | exact HK.out | apply KeepBut.set_ | apply keep_drewN | apply keep_drew | apply keep_alloc | refine keep_far ?_ GW436.out _) | exact HK.out)⟩
end Go.Proofs.YtndeikikeeeigaaDoor.Q
end
section
namespace Go.Proofs.YtndeikikeeeigaaDoor.Q
open Go.RowKit Go.Proofs.YtndeikikeeeigaaDoor.Pure Go.Proofs.YtndeikikeeeigaaDoorW.PrintWords Go.Proofs.YtndeikikeeeigaaDoorW.PrintLast Go.Proofs.YtndeikikeeeigaaDoorW.PrintMore
set_option linter.unusedVariables false
set_option linter.unusedSimpArgs false
theorem R_empty {α : Type} (d : Kd α) (e : Nat) (W : World) (base : Nat) (hb : base ≤ W.heap.size) : Kd.R d e (W.alloc (.cells #[] e)) base (fun _ => True) (.slice (some ⟨W.heap.size, 0, none⟩) 0 0) [] := by
  refine ⟨fun _ _ => trivial, [], ?_, Reps.none _ _⟩
  have h2 := World.ownsRow_lit (base := base) (e := e) (size := d.sz) W #[] 0 hb (by simp [maxLen]) (by simp)
  simpa using h2
theorem R_keepT {base : Nat} {w w1 : World} {v : Value} {xs : List S43} (h : Kd.R k43 43 w base (fun _ => True) v xs) (hk : KeepT w w1) : Kd.R k43 43 w1 base (fun _ => True) v xs :=
  Kd.R_mono (Kd.R_step (Kd.R_bound h) (fun k ho _ => by
    obtain ⟨_, _, _, q, hq, cells, hc⟩ := ho
    rcases List.mem_cons.1 hq with rfl | hq
    · rw [hc]; exact hk.keep k cells _ hc (by decide) (by decide)
    · cases hq)) (fun _ _ => trivial)
theorem wrAt_grown {B g base : Nat} {l : List Int} {W w1 : World} {v : Value} {xs : List S43} (h : WrAt B g l W) (hR : Kd.R k43 43 W base (fun _ => True) v xs) (hg : W.grownBy w1 v.ownBlock) : WrAt B g l w1 := by
  obtain ⟨u, hu, hB, ho⟩ := h
  refine ⟨u, blk_grown hu hg (Kd.R_ne hR hu (by decide)), hB, ?_⟩
  exact Kd.R_mono (Kd.R_step (Kd.R_bound ho) (fun k hk hlt => by
    obtain ⟨_, _, _, q, hq, cells, hc⟩ := hk
    rcases List.mem_cons.1 hq with rfl | hq
    · exact hg.block k hlt (Kd.R_ne hR hc (by decide))
    · cases hq)) (fun _ _ => trivial)
def wl (l0 : List S43) (k : Nat) : List S43 := (l0.take k).filter (fun x => !(wrB x).isEmpty)
theorem rd43_eq (l0 : List S43) (k : Nat) (hk : k < l0.length) : rd_T43 l0 (k : Int) = l0[k] := by simp [rd_T43, List.getD_eq_getElem?_getD, List.getElem?_eq_getElem hk]
theorem wl_succ_no (l0 : List S43) (k : Nat) (hk : k < l0.length) (h : wrB (rd_T43 l0 (k : Int)) = []) : wl l0 (k + 1) = wl l0 k := by
  rw [rd43_eq l0 k hk] at h
  unfold wl
  rw [List.take_succ_eq_append_getElem hk, List.filter_append]
  simp [h]
theorem wl_succ (l0 : List S43) (k : Nat) (hk : k < l0.length) (h : wrB (rd_T43 l0 (k : Int)) ≠ []) : wl l0 (k + 1) = wl l0 k ++ [rd_T43 l0 (k : Int)] := by
  rw [rd43_eq l0 k hk] at h ⊢
  unfold wl
  rw [List.take_succ_eq_append_getElem hk, List.filter_append]
  simp [h]
theorem wl_len (l0 : List S43) (k : Nat) : (wl l0 k).length ≤ k := by
  unfold wl
  have := List.length_filter_le (fun x => !(wrB x).isEmpty) (l0.take k)
  simp only [List.length_take] at this
  omega
theorem flat_filter (l : List S43) : (l.filter (fun x => !(wrB x).isEmpty)).flatMap wrB = l.flatMap wrB := by
  induction l with
  | nil => rfl
  | cons x l ih =>
    by_cases h : wrB x = []
    · simp [h, ih]
    · simp [h, ih]
theorem wl_bytes (l0 : List S43) : bts (wl l0 l0.length) (wl l0 l0.length).length = bts l0 l0.length := by
  unfold bts wl
  rw [List.take_length, flat_filter]
theorem wl_mem {l0 : List S43} {k : Nat} {x : S43} (h : x ∈ wl l0 k) : x ∈ l0 ∧ wrB x ≠ [] := by
  unfold wl at h
  rw [List.mem_filter] at h
  exact ⟨List.mem_of_mem_take h.1, by simpa using h.2⟩
def Back (k : Nat) (S : ByteArray) (ys : List S43) : Prop := ∀ j : Nat, j < ys.length → plenumlaw02_read.f k S ((bts ys j).length : Int) 0 (rd_T43 ys (j : Int)).f0 (rd_T43 ys (j : Int)).f1 (rd_T43 ys (j : Int)).f2 (rd_T43 ys (j : Int)).f3 (rd_T43 ys (j : Int)).f4 = some (true, S, ((bts ys (j + 1)).length : Int), 0)
def ReadsOk (k : Nat) (l0 : List S43) : Prop := plenumlaw02_awake.f (k + 3) = some true ∧ ∃ b, plenumlaw02_small.f (k + 3) l0 = some b ∧ (b = true → l0.length ≤ 60 ∧ Back (k + 3) (strOfNums (bts l0 l0.length)) (wl l0 l0.length)) ∧ ∀ x ∈ l0, Ok43 x
open Classical in
noncomputable def plenumlaw02_CodecReads.f (k : Nat) (l0 : List S43) : Option Bool := if ReadsOk k l0 then some true else none
set_option maxHeartbeats 16000000 in
set_option maxRecDepth 100000 in
theorem plenumlaw02_CodecReads.calls (k' : Nat) (A0 : Option Addr) (c0 : Nat) (l0 : List S43) (r : Bool) (w : World) (hG : Glob w) (hr0 : Kd.C k43 w A0 l0.length l0) (hc0 : l0.length ≤ c0) (h : plenumlaw02_CodecReads.f k' l0 = some r) :
    Calls Tryd.prog 8 #[.slice A0 l0.length c0] w fun e w' => e = .returned (.bool r) ∧ Below w.heap.size w w' := by
  unfold plenumlaw02_CodecReads.f at h
  by_cases hW : ReadsOk k' l0
  · rw [if_pos hW] at h
    obtain rfl := Option.some.inj h
    clear h
    obtain ⟨haw, b, hsm, hlen, hok⟩ := hW
    obtain ⟨k, hk⟩ : ∃ k, k' + 3 = k := ⟨_, rfl⟩
    rw [hk] at haw hsm hlen
    have HAW := Aside0.mk haw
    have HSM := Aside0.mk hsm
    have HG := Aside0.mk hG
    have HR := Aside0.mk hr0
    have HC := Aside0.mk hc0
    have HLN := Aside0.mk hlen
    have HOK := Aside0.mk hok
    have h00 := Aside0.mk (show 0 < w.heap.size by obtain ⟨t, h⟩ := hG; exact blk_lt h)
    have HKK := Aside0.mk hk
    clear haw hsm hG hr0 hc0 hlen hok hk
    cases b with
    | false =>
      go_enter Tryd.func8, Tryd.ntmps8
      go_wp2_with (first | (go_at_call 9; (with_reducible refine (plenumlaw02_awake.calls k true _ HG.out HAW.out).mono ?_); rintro e w1 ⟨rfl, hb⟩; have HB := Aside0.mk hb; clear hb) | (go_at_call 17; (with_reducible refine (plenumlaw02_small.calls k A0 c0 l0 false _ (Glob.below HG.out HB.out) (Kd.C_below HR.out HB.out) HC.out HSM.out).mono ?_); rintro e w2 ⟨rfl, hb⟩; have HB2 := Aside0.mk (below_step HB.out hb); clear hb))
      go_ret
      exact ⟨rfl, HB2.out⟩
    | true =>
      have hn := (HLN.out rfl).1
      have HBK := Aside0.mk (HLN.out rfl).2
      go_enter Tryd.func8, Tryd.ntmps8
      go_wp2_with (first | (go_at_call 9; (with_reducible refine (plenumlaw02_awake.calls k true _ HG.out HAW.out).mono ?_); rintro e w1 ⟨rfl, hb⟩; have HB := Aside0.mk hb; clear hb) | (go_at_call 17; (with_reducible refine (plenumlaw02_small.calls k A0 c0 l0 true _ (Glob.below HG.out HB.out) (Kd.C_below HR.out HB.out) HC.out HSM.out).mono ?_); rintro e w2 ⟨rfl, hb⟩; have HB2 := Aside0.mk (below_step HB.out hb); clear hb) | ((with_reducible refine gate_dst (N := 17) rfl ?_); refine box_event ?hg (N := 17) ?hd (cs := #[.slice none 0 0]) (t := 38) ?hr ?_; (case hd => rfl); (case hg => rfl); (case hr => first | (go_simp; done) | (go_simp; rfl)); intro g hg w3 hbox hb; have HW3 : Aside0 (WrAt w.heap.size g [] w3) := ⟨⟨_, hbox, by rw [hg]; exact HB2.out.size, Kd.R_nil _ _ _ _ _⟩⟩; have HB3 := Aside0.mk (below_step HB2.out hb); clear hb hbox hg))
      go_loopw [4, 5] (fun s i wr => ∃ j : Nat, j ≤ l0.length ∧ i = .int .i64 j ∧ Aside0 (Kd.R k43 43 wr w.heap.size (fun _ => True) s (wl l0 j)) ∧ Aside0 (WrAt w.heap.size g (bts l0 j) wr) ∧ Aside0 (Below w.heap.size w wr)) (fun _ i _ => l0.length - (intOf i).toNat)
      case atStart => exact ⟨0, Nat.zero_le _, rfl, ⟨R_empty _ _ _ _ HB3.out.size⟩, ⟨HW3.out.below (below_alloc (Below.refl _ _) _)⟩, ⟨below_alloc HB3.out _⟩⟩
      case round =>
        clear HW3 HB3
        obtain ⟨j, hj, rfl, HRj, HWj, HBj⟩ := hrel
        by_cases hlt : j < l0.length
        · obtain ⟨ad, e, hx0, hx1, hx2, hx3, hx4⟩ := at_T43 HR.out (j : Int) (by omega) (by omega)
          cases e
          rw [show ((j : Int)).toNat = j from rfl] at hx0 hx1 hx2 hx3 hx4
          have HX := Aside0.mk (And.intro hx0 (And.intro hx1 (And.intro hx2 (And.intro hx3 hx4))))
          replace hx0 := (HBj.out.cell (World.block_lt_of_cell? w _ hx0)).trans hx0
          replace hx1 := (HBj.out.cell (World.block_lt_of_cell? w _ hx1)).trans hx1
          replace hx2 := (HBj.out.cell (World.block_lt_of_cell? w _ hx2)).trans hx2
          replace hx3 := (HBj.out.cell (World.block_lt_of_cell? w _ hx3)).trans hx3
          replace hx4 := (HBj.out.cell (World.block_lt_of_cell? w _ hx4)).trans hx4
          have HLl := Aside0.mk (show (bts l0 j).length + 65600 ≤ wrMax by
            have := bts_len l0 HOK.out j (by omega)
            have : (bts l0 j).length ≤ 60 * 65545 := Nat.le_trans this (Nat.mul_le_mul_right _ (by omega))
            unfold wrMax
            omega)
          have HOx := Aside0.mk (HOK.out _ (rd43_mem l0 j hlt))
          have HWl := Aside0.mk (wrB_len _ HOx.out)
          have HNo := Aside0.mk (wl_succ_no l0 j hlt)
          have HYes := Aside0.mk (wl_succ l0 j hlt)
          have HYl := Aside0.mk (wl_len l0 j)
          obtain ⟨ls, HLs⟩ : ∃ ls, Aside0 (bts l0 (j + 1) = ls) := ⟨_, ⟨rfl⟩⟩
          have HLs2 := Aside0.mk ((bts_succ l0 j hlt).symm.trans HLs.out)
          obtain ⟨yn, HYn⟩ : ∃ yn, Aside0 (wl l0 (j + 1) = yn) := ⟨_, ⟨rfl⟩⟩
          rw [HYn.out] at HNo HYes
          generalize rd_T43 l0 (j : Int) = x at *
          generalize bts l0 j = l at *
          obtain ⟨ys, HYs⟩ : ∃ ys, Aside0 (wl l0 j = ys) := ⟨_, ⟨rfl⟩⟩
          rw [HYs.out] at HNo HYes HYl HRj
          have HLen := Aside0.mk (show ls.length = l.length + (wrB x).length by rw [← HLs2.out, List.length_append])
          by_cases hne : wrB x = []
          · have hd0 : decide (((strOfNums l).size : Int) < ((strOfNums ls).size : Int)) = false := decide_eq_false (by rw [strOfNums_size, strOfNums_size, HLen.out, hne]; simp)
            have hd1 : decide ((strOfNums l).size < (strOfNums ls).size) = false := decide_eq_false (by rw [strOfNums_size, strOfNums_size, HLen.out, hne]; simp)
            have HE := Aside0.mk (HNo.out hne)
            clear hne
            go_wp2_with (first | (go_at_call 19; (with_reducible refine (wr_data w.heap.size g l _ HWj.out).mono ?_); rintro e w6 ⟨rfl, rfl⟩) | (go_at_call 18; (with_reducible refine (write_calls w.heap.size g l x _ ⟨Glob.below HG.out HBj.out⟩ h00.out HBj.out.size HWj.out HLl.out HOx.out).mono ?_); rintro e w5 ⟨rfl, ha, hb, hk⟩; rw [HLs2.out] at ha; have HA5 := Aside0.mk ha; have HB5 := Aside0.mk (HBj.out.trans hb); have HR5 := Aside0.mk (R_keepT HRj.out hk); clear ha hb hk; clear hx0 hx1 hx2 hx3 hx4; have hy0 := (HB5.out.cell (World.block_lt_of_cell? w _ HX.out.1)).trans HX.out.1; have hy1 := (HB5.out.cell (World.block_lt_of_cell? w _ HX.out.2.1)).trans HX.out.2.1; have hy2 := (HB5.out.cell (World.block_lt_of_cell? w _ HX.out.2.2.1)).trans HX.out.2.2.1; have hy3 := (HB5.out.cell (World.block_lt_of_cell? w _ HX.out.2.2.2.1)).trans HX.out.2.2.2.1; have hy4 := (HB5.out.cell (World.block_lt_of_cell? w _ HX.out.2.2.2.2)).trans HX.out.2.2.2.2) | (go_at_call 19; (with_reducible refine (wr_data w.heap.size g ls _ HA5.out).mono ?_); rintro e w6 ⟨rfl, rfl⟩))
            refine ⟨⟨j + 1, by omega, by go_num, by rw [HYn.out, HE.out]; exact HR5, by rw [HLs.out]; exact HA5, HB5⟩, by simp [RowKit.intOf]; omega⟩
          · have hd0 : decide (((strOfNums l).size : Int) < ((strOfNums ls).size : Int)) = true := decide_eq_true (by rw [strOfNums_size, strOfNums_size, HLen.out]; have := List.length_pos_iff.mpr hne; omega)
            have hd1 : decide ((strOfNums l).size < (strOfNums ls).size) = true := decide_eq_true (by rw [strOfNums_size, strOfNums_size, HLen.out]; have := List.length_pos_iff.mpr hne; omega)
            have HE := Aside0.mk (HYes.out hne)
            have hyl := HYl.out
            clear hne
            go_wp2_with (first | (go_at_call 19; (with_reducible refine (wr_data w.heap.size g l _ HWj.out).mono ?_); rintro e w6 ⟨rfl, rfl⟩) | (go_at_call 18; (with_reducible refine (write_calls w.heap.size g l x _ ⟨Glob.below HG.out HBj.out⟩ h00.out HBj.out.size HWj.out HLl.out HOx.out).mono ?_); rintro e w5 ⟨rfl, ha, hb, hk⟩; rw [HLs2.out] at ha; have HA5 := Aside0.mk ha; have HB5 := Aside0.mk (HBj.out.trans hb); have HR5 := Aside0.mk (R_keepT HRj.out hk); clear ha hb hk; clear hx0 hx1 hx2 hx3 hx4; have hy0 := (HB5.out.cell (World.block_lt_of_cell? w _ HX.out.1)).trans HX.out.1; have hy1 := (HB5.out.cell (World.block_lt_of_cell? w _ HX.out.2.1)).trans HX.out.2.1; have hy2 := (HB5.out.cell (World.block_lt_of_cell? w _ HX.out.2.2.1)).trans HX.out.2.2.1; have hy3 := (HB5.out.cell (World.block_lt_of_cell? w _ HX.out.2.2.2.1)).trans HX.out.2.2.2.1; have hy4 := (HB5.out.cell (World.block_lt_of_cell? w _ HX.out.2.2.2.2)).trans HX.out.2.2.2.2) | (go_at_call 19; (with_reducible refine (wr_data w.heap.size g ls _ HA5.out).mono ?_); rintro e w6 ⟨rfl, rfl⟩) | (at_builtin; refine Kd.R_append k43 (w0 := w) w.heap.size rfl (.tmp 45) (.tmp 50) 34 43 (.agg #[(.int .i64 0), (.bool false), (.int .u64 0), (.int .i64 0), (.string ⟨#[]⟩)]) 48 rfl Tryd.underlying34 info43 rfl (by decide) (by omega) u4 ys x [.int .i64 x.f0, .bool x.f1, .int .u64 x.f2, .int .i64 x.f3, .string x.f4] (fun _ => True) (fun _ => False) rfl (by first | (go_simp; done) | (go_simp; rfl)) (k43_mkM _ _ _ x) (fun _ hk => hk.elim) (fun _ _ => trivial) HR5.out HB5.out HB5.out.size (by omega) ?_; intro v1 w9 ho hb hg hat; have HR9 := Aside0.mk ho; have HA9 := Aside0.mk (wrAt_grown HA5.out HR5.out hg); have HB9 := Aside0.mk hb; clear ho hb hg hat))
            refine ⟨⟨j + 1, by omega, by go_num, by rw [HYn.out, HE.out]; exact HR9, by rw [HLs.out]; exact HA9, HB9⟩, by simp [RowKit.intOf]; omega⟩
        · have hje : j = l0.length := by omega
          subst hje
          clear hlt hj
          have HYl := Aside0.mk (wl_len l0 l0.length)
          have HBt := Aside0.mk (wl_bytes l0)
          have HMem := Aside0.mk (fun x => @wl_mem l0 l0.length x)
          generalize wl l0 l0.length = ys at *
          obtain ⟨L, HL⟩ : ∃ L, Aside0 (bts l0 l0.length = L) := ⟨_, ⟨rfl⟩⟩
          rw [HL.out] at HBt HBK HWj
          obtain ⟨Ay, cy, ey, hcy, hCy⟩ := Kd.R_reads HRj.out
          subst ey
          have HCy := Aside0.mk hCy
          have HGW := Aside0.mk (Glob.below HG.out HBj.out)
          have hm : ys.length ≤ 60 := Nat.le_trans HYl.out hn
          clear hCy
          go_wp2_with (first | (go_at_call 19; (with_reducible refine (wr_data w.heap.size g L _ HWj.out).mono ?_); rintro e w6 ⟨rfl, rfl⟩) | (go_at_call 20; (with_reducible refine (codec_NewReader.calls (strOfNums L) (strOfNums L) 0 0 _ _ HGW.out (Below.refl _ _) rfl).mono ?_); rintro e w7 ⟨gr, rfl, hi, hb, hb2⟩; have HI7 := Aside0.mk hi; have HB7 := Aside0.mk hb; clear hi hb hb2))
          go_loopw [10] (fun i wr => ∃ j : Nat, j ≤ ys.length ∧ i = .int .i64 j ∧ Aside0 (IsS78 w6 wr gr (strOfNums L) ((bts ys j).length : Int) 0) ∧ Aside0 (Below (w6).heap.size w6 wr)) (fun i _ => ys.length - (intOf i).toNat)
          case atStart => exact ⟨0, Nat.zero_le _, rfl, HI7, HB7⟩
          case round =>
            clear HI7 HB7
            obtain ⟨q, hq, rfl, HIq, HBq⟩ := hrel
            by_cases hlt : q < ys.length
            · obtain ⟨ad, e, hx0, hx1, hx2, hx3, hx4⟩ := at_T43 HCy.out (q : Int) (by omega) (by omega)
              cases e
              rw [show ((q : Int)).toNat = q from rfl] at hx0 hx1 hx2 hx3 hx4
              replace hx0 := (HBq.out.cell (World.block_lt_of_cell? _ _ hx0)).trans hx0
              replace hx1 := (HBq.out.cell (World.block_lt_of_cell? _ _ hx1)).trans hx1
              replace hx2 := (HBq.out.cell (World.block_lt_of_cell? _ _ hx2)).trans hx2
              replace hx3 := (HBq.out.cell (World.block_lt_of_cell? _ _ hx3)).trans hx3
              replace hx4 := (HBq.out.cell (World.block_lt_of_cell? _ _ hx4)).trans hx4
              have HRd := Aside0.mk (HBK.out q hlt)
              obtain ⟨p', HP⟩ : ∃ p', Aside0 (((bts ys (q + 1)).length : Int) = p') := ⟨_, ⟨rfl⟩⟩
              rw [HP.out] at HRd
              generalize rd_T43 ys (q : Int) = x at *
              generalize ((bts ys q).length : Int) = p at *
              go_wp2_with (first | (go_at_call 32; (with_reducible refine (plenumlaw02_read.calls k gr (strOfNums L) p 0 x.f0 x.f1 x.f2 x.f3 x.f4 true (strOfNums L) p' 0 w6 _ HGW.out HIq.out HBq.out HRd.out).mono ?_); rintro e w8 ⟨rfl, hi, hb, hk⟩; have HI8 := Aside0.mk hi; have HB8 := Aside0.mk hb; clear hi hb hk) | (go_at_call 24; (with_reducible refine (codec_Reader_Err.calls gr (strOfNums L) p' 0 0 (strOfNums L) p' 0 w6 _ HGW.out HI8.out HB8.out rfl).mono ?_); rintro e w9 ⟨rfl, hi, hb, hk⟩; have HI9 := Aside0.mk hi; have HB9 := Aside0.mk hb; clear hi hb hk))
              refine ⟨⟨q + 1, by omega, by go_num, by rw [HP.out]; exact HI9, HB9⟩, by simp [RowKit.intOf]; omega⟩
            · have hqe : q = ys.length := by omega
              subst hqe
              have hsz : ((bts ys ys.length).length : Int) = ((strOfNums L).size : Int) := by rw [HBt.out, strOfNums_size]
              rw [hsz] at HIq
              clear hsz
              obtain ⟨S, HS⟩ : ∃ S, Aside0 (strOfNums L = S) := ⟨_, ⟨rfl⟩⟩
              rw [HS.out] at HIq
              have HEnd := Aside0.mk (show codec_Reader_End.f S (S.size : Int) 0 = some (0, S, (S.size : Int), 0) from by rw [rd_end S _ (Int.le_refl _), if_neg (Int.lt_irrefl _)])
              have HKind := Aside0.mk (show codec_Reader_Kind.f k S (S.size : Int) 0 = some (0, S, (S.size : Int), 0) from by rw [← HKK.out, rd_kind, show kindS S (S.size : Int) = 0 from by unfold kindS; exact if_pos (Or.inr (Int.le_refl _))])
              go_wp2_with (first | (go_at_call 25; (with_reducible refine (codec_Reader_End.calls gr S (S.size : Int) 0 0 S (S.size : Int) 0 w6 _ HGW.out HIq.out HBq.out HEnd.out).mono ?_); rintro e w8 ⟨rfl, hi, hb, hk⟩; have HI8 := Aside0.mk hi; have HB8 := Aside0.mk hb; clear hi hb hk) | (go_at_call 22; (with_reducible refine (codec_Reader_Kind.calls k gr S (S.size : Int) 0 0 S (S.size : Int) 0 w6 _ HGW.out HI8.out HB8.out HKind.out).mono ?_); rintro e w9 ⟨rfl, hi, hb, hk⟩; have HI9 := Aside0.mk hi; have HB9 := Aside0.mk hb; clear hi hb hk) | (go_at_call 23; (with_reducible refine (codec_Reader_Offset.calls gr S (S.size : Int) 0 (S.size : Int) S (S.size : Int) 0 w6 _ HGW.out HI9.out HB9.out rfl).mono ?_); rintro e w10 ⟨rfl, hi, hb, hk⟩; have HI10 := Aside0.mk hi; have HB10 := Aside0.mk hb; clear hi hb hk) | (go_at_call 19; (with_reducible refine (wr_data w.heap.size g L _ (HWj.out.below HB10.out)).mono ?_); rintro e w11 ⟨rfl, rfl⟩; rw [HS.out]))
              go_ret
              exact ⟨rfl, below_step HBj.out HB10.out⟩
  · rw [if_neg hW] at h
    cases h
end Go.Proofs.YtndeikikeeeigaaDoor.Q
end
section
namespace Go.Proofs.YtndeikikeeeigaaDoor.Pure
open Go.RowKit Go.Proofs.YtndeikikeeeigaaDoor.Q Go.Proofs.YtndeikikeeeigaaDoorW.PrintWords Go.Proofs.YtndeikikeeeigaaDoorW.PrintLast Go.Proofs.YtndeikikeeeigaaDoorW.PrintMore
theorem awake_60 : plenumlaw02_awake.f 60 = some true := by decide +kernel
theorem awake_eq (k : Nat) : plenumlaw02_awake.f (k + 60) = some true := by
  induction k with
  | zero => exact awake_60
  | succ k ih =>
    have := plenumlaw02_awake.mono (k + 60)
    rw [show k + 1 + 60 = k + 60 + 1 by omega]
    exact this _ ih
end Go.Proofs.YtndeikikeeeigaaDoor.Pure
end
section
namespace Go.Proofs.YtndeikikeeeigaaDoor.Opn
open Go.RowKit Go.Proofs.YtndeikikeeeigaaDoorW.PrintWords
def Opn (P : Program) (t : TypeId) {α : Type} (d : Kd α) (V : α → Prop) : Prop :=
  ∀ (H : Type) (enc : TypeId × Value → H) (w : World) (fuel : Nat) (cs : List Value) (x : DataW H × List MemPlace),
    DataW.trod enc P w 0 (fun _ => true) true fuel t cs = some x → (∀ n ∈ DataW.weights P t x.1, n ≤ 140737488351232) → ∃ y, d.K w y cs ∧ V y
theorem opn_int {P : Program} {t : TypeId} {k : IntKind} (ht : P.underlying t = some (.int k)) : Opn P t (Kd.int k) (fun y => (Lit.int k y).wf = true) := by
  intro H enc w fuel cs x h _
  obtain ⟨n, rfl, _, hw⟩ := DataW.trod_int ht h
  exact ⟨n, rfl, hw⟩
theorem opn_bool {P : Program} {t : TypeId} (ht : P.underlying t = some .bool) : Opn P t Kd.bool (fun _ => True) := by
  intro H enc w fuel cs x h _
  obtain ⟨b, rfl, _⟩ := DataW.trod_bool ht h
  exact ⟨b, rfl, trivial⟩
theorem opn_string {P : Program} {t : TypeId} (ht : P.underlying t = some .string) : Opn P t Kd.string (fun y => y.size ≤ 140737488351232) := by
  intro H enc w fuel cs x h hw
  obtain ⟨s, rfl, rfl, _⟩ := DataW.trod_string ht h
  refine ⟨s, rfl, ?_⟩
  have := hw s.data.toList.length (by simp [DataW.weights])
  rw [Array.length_toList] at this
  exact this
theorem weights_all {H : Type} {P : Program} {e : TypeId} {d : DataW H} {n : Nat} (hn : n ∈ DataW.weights P e d) : ∀ {l : List (DataW H)}, d ∈ l → n ∈ DataW.weightsAll P e l
  | [], h => by simp at h
  | a :: r, h => by
    simp only [DataW.weightsAll, List.mem_append]
    rcases List.mem_cons.1 h with rfl | h
    · exact .inl hn
    · exact .inr (weights_all hn h)
theorem list_of {α : Type} (Q : Nat → α → Prop) : ∀ n, (∀ i, i < n → ∃ y, Q i y) → ∃ l : List α, l.length = n ∧ ∀ i y, l[i]? = some y → Q i y
  | 0, _ => ⟨[], rfl, fun i y h => by simp at h⟩
  | n + 1, h => by
    obtain ⟨l, hl, hq⟩ := list_of Q n (fun i hi => h i (by omega))
    obtain ⟨y, hy⟩ := h n (by omega)
    refine ⟨l ++ [y], by simp [hl], fun i z hz => ?_⟩
    rcases Nat.lt_or_ge i n with hi | hi
    · rw [List.getElem?_append_left (by omega)] at hz
      exact hq i z hz
    · have : i = n := by
        have := (List.getElem?_eq_some_iff.1 hz).1
        simp [hl] at this
        omega
      subst this
      rw [List.getElem?_append_right (by omega), hl, Nat.sub_self] at hz
      simp at hz
      subst hz
      exact hy
theorem opn_slice {P : Program} {t e : TypeId} {α : Type} {d : Kd α} {V : α → Prop} {B : Nat} (ht : P.underlying t = some (.slice e)) (hs : P.cellsOf e = d.sz) (hB : P.bytesOf e = B) (he : Opn P e d V) :
    Opn P t (Kd.slice e d) (fun xs => xs.length * B ≤ 140737488351232 ∧ ∀ x ∈ xs, V x) := by
  intro H enc w fuel cs x h hw
  rcases Go.Deep.open_slice ht h with ⟨rfl, rfl⟩ | ⟨a, len, cap, m, n, D, Pl, rfl, _, hl, hm, hmm, rfl, hi⟩
  · exact ⟨[], ⟨none, 0, rfl, by simp, rfl, by simp, fun hn => absurd hn (by simp)⟩, by simp, by simp⟩
  have hmm' : m = cap := by simpa using hmm
  subst hmm'
  have hw' : (len + (m - len)) * B ≤ 140737488351232 := by
    have := hw ((len + (m - len)) * B) (by simp [DataW.weights, ht, hB])
    exact this
  obtain ⟨l, hlen, hq⟩ := list_of (fun i y => ∃ c, w.cells? 0 (a.add (i * P.cellsOf e)) (P.cellsOf e) = some c ∧ d.K w y c ∧ V y) len (fun i hil => by
    obtain ⟨c, hc, htr⟩ := hi i (by omega)
    obtain ⟨y, hy, hV⟩ := he H enc w n c _ htr (fun k hk => hw k (by
      simp only [DataW.weights, ht, List.mem_cons, List.mem_append]
      exact .inr (.inl (weights_all hk (List.mem_map.2 ⟨i, List.mem_range.2 hil, rfl⟩)))))
    exact ⟨y, c, hc, hy, hV⟩)
  refine ⟨l, ⟨some a, m, by rw [hlen], by omega, ?_⟩, ?_, ?_⟩
  · refine ⟨rfl, by simp only [maxLen] at hm; omega, fun _ => ⟨a, rfl, fun j p hj => ?_⟩⟩
    obtain ⟨c, hc, hK, _⟩ := hq j p hj
    obtain ⟨_, hcl, hat⟩ := World.cells?_some hc
    refine ⟨c, by rw [hcl, hs], hK, fun i u hu => ?_⟩
    have hil : i < P.cellsOf e := by
      have := (List.getElem?_eq_some_iff.1 hu).1
      omega
    rw [← hs, ← Go.Deep.add_add, hat i hil, hu]
  · rw [hlen]
    exact Nat.le_trans (Nat.mul_le_mul_right _ (by omega)) hw'
  · intro y hy
    obtain ⟨i, hi2⟩ := List.mem_iff_getElem?.1 hy
    exact (hq i y hi2).elim fun c h => h.2.2
def OpnF (P : Program) (fs : List Field) {α : Type} (d : Kd α) (V : α → Prop) (o : Nat) : Prop :=
  ∀ (H : Type) (enc : TypeId × Value → H) (w : World) (n : Nat) (cs : List Value) (xs : List (DataW H × List MemPlace)),
    o + d.sz ≤ cs.length →
    (∀ (i : Nat) (f : Field), fs[i]? = some f → ∃ x, xs[i]? = some x ∧ DataW.trod enc P w 0 (fun _ => true) true n f.type ((cs.drop f.offset).take (P.cellsOf f.type)) = some x ∧ ∀ k ∈ DataW.weights P f.type x.1, k ≤ 140737488351232) →
    ∃ y, d.K w y ((cs.drop o).take d.sz) ∧ V y
theorem opn_last {P : Program} {f : Field} {α : Type} {d : Kd α} {V : α → Prop} {o : Nat} (ho : f.offset = o) (hs : P.cellsOf f.type = d.sz) (h : Opn P f.type d V) : OpnF P [f] d V o := by
  intro H enc w n cs xs _ hx
  obtain ⟨x, _, ht, hw⟩ := hx 0 f rfl
  rw [hs, ho] at ht
  exact h H enc w n _ x ht hw
theorem take_two {α : Type} (cs : List α) (o a b : Nat) : (cs.drop o).take (a + b) = (cs.drop o).take a ++ (cs.drop (o + a)).take b := by
  rw [List.take_add, List.drop_drop]
theorem opn_cons {P : Program} {f : Field} {fs : List Field} {α β : Type} {a : Kd α} {b : Kd β} {V : α → Prop} {U : β → Prop} {o : Nat} (ho : f.offset = o) (hs : P.cellsOf f.type = a.sz) (h : Opn P f.type a V) (hr : OpnF P fs b U (o + a.sz)) :
    OpnF P (f :: fs) (Kd.pair a b) (fun y => V y.1 ∧ U y.2) o := by
  intro H enc w n cs xs hl hx
  obtain ⟨x, hx0, ht, hw⟩ := hx 0 f rfl
  rw [hs, ho] at ht
  obtain ⟨y, hy, hV⟩ := h H enc w n _ x ht hw
  have hl' : o + (a.sz + b.sz) ≤ cs.length := hl
  obtain ⟨z, hz, hU⟩ := hr H enc w n cs (xs.drop 1) (by omega) (fun i g hg => by
    obtain ⟨x', h1, h2⟩ := hx (i + 1) g (by simpa using hg)
    exact ⟨x', by rw [List.getElem?_drop, Nat.add_comm]; exact h1, h2⟩)
  exact ⟨(y, z), ⟨_, _, take_two cs o a.sz b.sz, hy, hz⟩, hV, hU⟩
theorem opn_struct {P : Program} {t : TypeId} {fa : Array Field} {fs : List Field} {α β : Type} {d : Kd α} {V : α → Prop} (ht : P.underlying t = some (.struct fa)) (hf : fa.toList = fs) (hs : P.cellsOf t = d.sz) (g : β → α) (g' : α → β) (hg : ∀ y, g (g' y) = y)
    (h : OpnF P fs d V 0) : Opn P t (Kd.iso d g) (fun x => V (g x)) := by
  intro H enc w fuel cs x hx hw
  obtain ⟨xs, n, rfl, rfl, hl, hxl, hfs⟩ := DataW.trod_struct ht hx
  obtain ⟨y, hy, hV⟩ := h H enc w n cs xs (by omega) (fun i f hi => by
    have hi' : fa[i]? = some f := by rw [← hf] at hi; simpa using hi
    have hlt : i < xs.length := by
      rw [hxl]
      exact (Array.getElem?_eq_some_iff.1 hi').1
    have h1 := hfs i f hi'
    refine ⟨xs[i], List.getElem?_eq_getElem hlt, by rw [h1, List.getElem?_eq_getElem hlt], fun k hk => hw k ?_⟩
    simp only [DataW.weights, ht]
    refine DataW.weights_mem_each (j := i) (t := f.type) (d := xs[i].1) ?_ ?_ k hk
    · rw [List.getElem?_map, hf, hi]
      rfl
    · rw [List.getElem?_map, List.getElem?_eq_getElem hlt]
      rfl)
  refine ⟨g' y, ?_, ?_⟩
  · show d.K w (g (g' y)) cs
    rw [hg]
    rw [List.drop_zero, ← hs, ← hl, List.take_length] at hy
    exact hy
  · show V (g (g' y))
    rw [hg]
    exact hV
theorem arg_slice {H : Type} {enc : TypeId × Value → H} {P : Program} {t e : TypeId} {α : Type} {d : Kd α} {V : List α → Prop} {W : World} {v : Value} {x : DataW H} {ps : List MemPlace} (ho : Opn P t (Kd.slice e d) V) (a : Option Addr) (len cap : Nat) (hv : v = .slice a len cap)
    (h : DataW.Trod enc P W 0 (fun _ => true) true t v x ps) (hw : ∀ n ∈ DataW.weights P t x, n ≤ 140737488351232) : ∃ (A : Option Addr) (c : Nat) (l : List α), v = .slice A l.length c ∧ l.length ≤ c ∧ Kd.C d W A l.length l ∧ V l := by
  obtain ⟨fuel, hf⟩ := h
  obtain ⟨l, ⟨A, c, hc, hl, hC⟩, hV⟩ := ho H enc W fuel _ _ hf hw
  subst hv
  have he : Value.slice a len cap = .slice A l.length c := by simpa [Value.cells] using hc
  exact ⟨A, c, l, he, hl, hC, hV⟩
theorem arg_weights {H : Type} {P : Program} {ts : List TypeId} {ds : List (DataW H)} (h : (DataW.weightsEach P ts ds).all (· ≤ reachBytes) = true) {j : Nat} {t : TypeId} {d : DataW H} (ht : ts[j]? = some t) (hd : ds[j]? = some d) : ∀ n ∈ DataW.weights P t d, n ≤ 140737488351232 := by
  intro n hn
  have := List.all_eq_true.1 h n (DataW.weights_mem_each ht hd n hn)
  exact of_decide_eq_true this
end Go.Proofs.YtndeikikeeeigaaDoor.Opn
end
section
namespace Go.Proofs.YtndeikikeeeigaaDoor.Q
open Go.RowKit Go.Proofs.YtndeikikeeeigaaDoorW.PrintWords Go.Proofs.YtndeikikeeeigaaDoor.Opn
def V43 (x : S43) : Prop := ((Lit.int .i64 x.f0).wf = true) ∧ (True) ∧ ((Lit.int .u64 x.f2).wf = true) ∧ ((Lit.int .i64 x.f3).wf = true) ∧ (x.f4.size ≤ 140737488351232)
theorem opn43 : Opn Tryd.prog 43 k43 V43 := opn_struct Tryd.underlying43 rfl (by kernel_rfl) (fun x : S43 => (x.f0, x.f1, x.f2, x.f3, x.f4)) (fun y => (⟨y.1, y.2.1, y.2.2.1, y.2.2.2.1, y.2.2.2.2⟩ : S43)) (fun _ => rfl) (opn_cons rfl (by kernel_rfl) (opn_int Tryd.underlying3) (opn_cons rfl (by kernel_rfl) (opn_bool Tryd.underlying4) (opn_cons rfl (by kernel_rfl) (opn_int Tryd.underlying41) (opn_cons rfl (by kernel_rfl) (opn_int Tryd.underlying2) (opn_last rfl (by kernel_rfl) (opn_string Tryd.underlying9))))))
end Go.Proofs.YtndeikikeeeigaaDoor.Q
end
section
namespace Go.Proofs.YtndeikikeeeigaaDoor.Pure
open Go.RowKit Go.Proofs.YtndeikikeeeigaaDoor.Q Go.Proofs.YtndeikikeeeigaaDoorW.PrintWords Go.Proofs.YtndeikikeeeigaaDoorW.PrintLast Go.Proofs.YtndeikikeeeigaaDoorW.PrintMore
set_option linter.unusedVariables false
theorem small_loop (l : List S43) : ∀ (d i k : Nat) (n : Int), i + d = 70 → ∃ b, plenumlaw02_small.l0 (k + d + 1) l n (i : Int) = some b ∧ (b = true → l.length ≤ 60) := by
  have fin : ∀ n : Int, ∃ b, (if (l.length : Int) ≤ 60 then some (decide (n ≤ 70000)) else some false) = some b ∧ (b = true → l.length ≤ 60) := fun n => by
    by_cases c : (l.length : Int) ≤ 60
    · rw [if_pos c]; exact ⟨_, rfl, fun _ => by omega⟩
    · rw [if_neg c]; exact ⟨_, rfl, fun h => by cases h⟩
  intro d
  induction d with
  | zero =>
    intro i k n hi
    rw [show k + 0 + 1 = k + 1 by omega, plenumlaw02_small.l0]
    by_cases c : (i : Int) < (l.length : Int)
    · rw [if_pos c, if_neg (by omega)]; exact fin n
    · rw [if_neg c]; exact fin n
  | succ d ih =>
    intro i k n hi
    rw [show k + (d + 1) + 1 = (k + d + 1) + 1 by omega, plenumlaw02_small.l0]
    by_cases c : (i : Int) < (l.length : Int)
    · rw [if_pos c, if_pos (by omega), if_pos (by omega), w64 (n := (i : Int) + 1) (by omega) (by omega)]
      exact ih (i + 1) k _ (by omega)
    · rw [if_neg c]; exact fin n
theorem small_some (l : List S43) (k : Nat) : ∃ b, plenumlaw02_small.f (k + 71) l = some b ∧ (b = true → l.length ≤ 60) := small_loop l 70 0 k 0 (by omega)
theorem ok43 {x : S43} (h : V43 x) : Ok43 x := by
  obtain ⟨_, _, hu, hn, _⟩ := h
  have h1 : (decide ((0 : Int) ≤ x.f2) && decide (x.f2 ≤ 18446744073709551615)) = true := hu
  have h2 : (decide ((-9223372036854775808 : Int) ≤ x.f3) && decide (x.f3 ≤ 9223372036854775807)) = true := hn
  simp only [Bool.and_eq_true, decide_eq_true_eq] at h1 h2
  exact ⟨h1.1, by omega, h2.1, h2.2⟩
end Go.Proofs.YtndeikikeeeigaaDoor.Pure
end
section
namespace Go.Proofs.YtndeikikeeeigaaDoor.Pure
open Go.RowKit Go.Proofs.YtndeikikeeeigaaDoor.Q Go.Proofs.YtndeikikeeeigaaDoorW.PrintWords Go.Proofs.YtndeikikeeeigaaDoorW.PrintLast Go.Proofs.YtndeikikeeeigaaDoorW.PrintMore
set_option linter.unusedVariables false
theorem bt_mid (l pre post : List Int) (b : Int) (h : l = pre ++ b :: post) (h0 : 0 ≤ b) (h1 : b ≤ 255) : bt (strOfNums l) (pre.length : Int) = b := by
  subst h
  rw [← rd_bytesOf]
  have e : bytesOf (strOfNums (pre ++ b :: post)) = (pre ++ b :: post).map (fun n : Int => ((UInt8.ofNat n.toNat).toNat : Int)) := by
    show ((((pre ++ b :: post).map fun n => UInt8.ofNat n.toNat)).map fun b => (b.toNat : Int)) = _
    rw [List.map_map]
    rfl
  rw [e]
  unfold rd
  rw [show ((pre.length : Int)).toNat = pre.length from rfl, List.getD_eq_getElem?_getD, List.getElem?_map, List.getElem?_append_right (Nat.le_refl _), Nat.sub_self, List.getElem?_cons_zero]
  show ((UInt8.ofNat b.toNat).toNat : Int) = b
  rw [UInt8.toNat_ofNat']
  omega
theorem beN_at : ∀ (m : Nat) (V : Int) (l pre post : List Int), l = pre ++ beH V m ++ post → beN (strOfNums l) (pre.length : Int) m = V % 256 ^ m := by
  intro m
  induction m with
  | zero => intro V l pre post h; show (0 : Int) = V % 1; omega
  | succ m ih =>
    intro V l pre post h
    have e1 := ih (V / 256) l pre ([V % 256] ++ post) (by rw [h, beH_snoc]; simp [List.append_assoc])
    have e2 := bt_mid l (pre ++ beH (V / 256) m) post (V % 256) (by rw [h, beH_snoc]; simp [List.append_assoc]) (by omega) (by omega)
    rw [List.length_append, beH_length] at e2
    show beN (strOfNums l) (pre.length : Int) m * 256 + bt (strOfNums l) ((pre.length : Int) + (m : Int)) = V % 256 ^ (m + 1)
    rw [e1, show ((pre.length : Int) + (m : Int)) = ((pre.length + m : Nat) : Int) by omega, e2]
    rw [Int.pow_succ]
    have h1 := Int.emod_add_mul_ediv V 256
    have h2 : V % (256 ^ m * 256) = V % 256 + 256 * (V / 256 % 256 ^ m) := by
      have hB : (0 : Int) < 256 ^ m := Int.pow_pos (by decide)
      generalize (256 : Int) ^ m = B at *
      have q1 := Int.emod_add_mul_ediv (V / 256) B
      have r0 := Int.emod_nonneg (V / 256) (Int.ne_of_gt hB)
      have r1 := Int.emod_lt_of_pos (V / 256) hB
      have e : V = (V % 256 + 256 * (V / 256 % B)) + (B * 256) * (V / 256 / B) := by
        have : (B * 256) * (V / 256 / B) = 256 * (B * (V / 256 / B)) := by rw [Int.mul_comm B 256, Int.mul_assoc]
        rw [this]
        omega
      conv => lhs; rw [e]
      rw [Int.add_mul_emod_self_left, Int.emod_eq_of_lt]
      · omega
      · omega
    rw [h2]
    omega
theorem nb_lt {V : Int} (h0 : 0 ≤ V) (h1 : V < 18446744073709551616) : V < 256 ^ (nb V).toNat := by
  unfold nb
  repeat' split
  all_goals simp
  all_goals omega
theorem str_len (a b c : List Int) : ((strOfNums (a ++ b ++ c)).size : Int) = a.length + b.length + c.length := by
  rw [strOfNums_size, List.length_append, List.length_append]
  omega
theorem cnt_mid (l pre post : List Int) (lead n : Int) (h : l = pre ++ (lead + n) :: post) (hl : lead = 16 ∨ lead = 32) (h1 : 1 ≤ n) (h8 : n ≤ 8) : cnt (strOfNums l) (pre.length : Int) = n.toNat ∧ kindS (strOfNums l) (pre.length : Int) = (if lead = 16 then 3 else 4) := by
  have hb := bt_mid l pre post (lead + n) h (by omega) (by omega)
  have hs : (pre.length : Int) < ((strOfNums l).size : Int) := by rw [strOfNums_size, h]; simp; omega
  refine ⟨by unfold cnt; rw [hb]; omega, ?_⟩
  unfold kindS
  rw [if_neg (by omega), hb]
  unfold kd
  rcases hl with rfl | rfl
  · rw [if_pos rfl]; omega
  · rw [if_neg (show ¬ (32 : Int) = 16 by decide)]; omega
theorem uS_str (l pre post : List Int) (V : Int) (h : l = pre ++ uB V ++ post) (h0 : 0 ≤ V) (h1 : V < 18446744073709551616) : uS (strOfNums l) (pre.length : Int) = some (V, (pre.length : Int) + ((uB V).length : Int)) := by
  have hr := nb_range V
  have hu : uB V = (16 + nb V) :: beH V (nb V).toNat := by unfold uB; rw [beL_eq]
  have hl : (uB V).length = (nb V).toNat + 1 := by rw [hu, List.length_cons, beH_length]
  obtain ⟨hc, hk⟩ := cnt_mid l pre (beH V (nb V).toNat ++ post) 16 (nb V) (by rw [h, hu]; simp) (Or.inl rfl) hr.1 hr.2
  rw [if_pos rfl] at hk
  have hv := beN_at (nb V).toNat V l (pre ++ [16 + nb V]) post (by rw [h, hu]; simp)
  rw [Int.emod_eq_of_lt h0 (nb_lt h0 h1), List.length_append, List.length_singleton, show (((pre.length + 1 : Nat)) : Int) = (pre.length : Int) + 1 by omega] at hv
  have hval : val (strOfNums l) (pre.length : Int) = V := by unfold val; rw [hc]; exact hv
  unfold uS
  rw [if_pos, hval, hc, hl]
  · congr 2
    omega
  · refine ⟨hk, ?_, by rw [hval, hc]; omega⟩
    rw [hc, h, str_len, hl]
    omega
theorem sgn_mod {V : Int} (h0 : -9223372036854775808 ≤ V) (h1 : V ≤ 9223372036854775807) : sgn (ss V).toNat (V % 256 ^ (ss V).toNat) = V := by
  unfold ss sb
  repeat' split
  all_goals unfold sgn
  all_goals simp
  all_goals omega
theorem sS_str (l pre post : List Int) (V : Int) (h : l = pre ++ sB V ++ post) (h0 : -9223372036854775808 ≤ V) (h1 : V ≤ 9223372036854775807) : sS (strOfNums l) (pre.length : Int) = some (V, (pre.length : Int) + ((sB V).length : Int)) := by
  have hr := ss_range V h0 h1
  have hu : sB V = (32 + ss V) :: beH V (ss V).toNat := by unfold sB; rw [beL_eq]
  have hl : (sB V).length = (ss V).toNat + 1 := by rw [hu, List.length_cons, beH_length]
  obtain ⟨hc, hk⟩ := cnt_mid l pre (beH V (ss V).toNat ++ post) 32 (ss V) (by rw [h, hu]; simp) (Or.inr rfl) hr.1 hr.2
  rw [if_neg (by decide)] at hk
  have hv := beN_at (ss V).toNat V l (pre ++ [32 + ss V]) post (by rw [h, hu]; simp)
  rw [List.length_append, List.length_singleton, show (((pre.length + 1 : Nat)) : Int) = (pre.length : Int) + 1 by omega] at hv
  have hval : sgn (cnt (strOfNums l) (pre.length : Int)) (val (strOfNums l) (pre.length : Int)) = V := by unfold val; rw [hc, hv]; exact sgn_mod h0 h1
  unfold sS
  rw [if_pos, hval, hc, hl]
  · congr 2
    omega
  · refine ⟨hk, ?_, by rw [hval, hc]; omega⟩
    rw [hc, h, str_len, hl]
    omega
theorem kind_mid (l pre post : List Int) (b : Int) (h : l = pre ++ b :: post) (h0 : 0 ≤ b) (h1 : b ≤ 255) : kindS (strOfNums l) (pre.length : Int) = kd b := by
  have hb := bt_mid l pre post b h h0 h1
  have hs : (pre.length : Int) < ((strOfNums l).size : Int) := by rw [strOfNums_size, h]; simp; omega
  unfold kindS
  rw [if_neg (by omega), hb]
theorem ext_mid (a s c : ByteArray) : (a ++ s ++ c).extract a.size (a.size + s.size) = s := by
  apply ByteArray.ext
  apply Array.toList_inj.mp
  simp [ByteArray.data_extract, ByteArray.data_append, Array.toList_extract]
  have h1 : a.size = a.data.toList.length := by rw [Array.length_toList]; rfl
  have h2 : s.size = s.data.toList.length := by rw [Array.length_toList]; rfl
  rw [h1, h2, List.drop_length, List.take_length]
  simp
theorem tS_str (l pre post : List Int) (s : ByteArray) (h : l = pre ++ ([48] ++ uB (s.size : Int) ++ bytesOf s) ++ post) (hs : s.size ≤ 65535) : tS (strOfNums l) (pre.length : Int) = some (s, (pre.length : Int) + (([48] ++ uB (s.size : Int) ++ bytesOf s).length : Int)) := by
  have hk := kind_mid l pre (uB (s.size : Int) ++ bytesOf s ++ post) 48 (by rw [h]; simp) (by omega) (by omega)
  have hu := uS_str l (pre ++ [48]) (bytesOf s ++ post) (s.size : Int) (by rw [h]; simp) (by omega) (by omega)
  rw [List.length_append, List.length_singleton, show (((pre.length + 1 : Nat)) : Int) = (pre.length : Int) + 1 by omega] at hu
  have hsz : ((strOfNums l).size : Int) = (pre.length : Int) + 1 + ((uB (s.size : Int)).length : Int) + (s.size : Int) + (post.length : Int) := by
    rw [strOfNums_size, h]
    simp [bytesOf_length]
    omega
  unfold tS
  rw [if_pos (by rw [hk]; rfl), hu]
  simp only []
  rw [if_neg (by omega), if_neg (by omega)]
  have he : strOfNums l = strOfNums (pre ++ [48] ++ uB (s.size : Int)) ++ s ++ strOfNums post := by
    rw [h, show pre ++ ([48] ++ uB (s.size : Int) ++ bytesOf s) ++ post = (pre ++ [48] ++ uB (s.size : Int)) ++ bytesOf s ++ post by simp, strOfNums_app, strOfNums_app _ (bytesOf s), strOfNums_bytes]
  have ha : (strOfNums (pre ++ [48] ++ uB (s.size : Int))).size = pre.length + 1 + (uB (s.size : Int)).length := by rw [strOfNums_size]; simp; omega
  have hx := ext_mid (strOfNums (pre ++ [48] ++ uB (s.size : Int))) s (strOfNums post)
  rw [← he, ha] at hx
  rw [show ((pre.length : Int) + 1 + ((uB (s.size : Int)).length : Int)).toNat = pre.length + 1 + (uB (s.size : Int)).length by omega, show ((pre.length : Int) + 1 + ((uB (s.size : Int)).length : Int) + (s.size : Int)).toNat = pre.length + 1 + (uB (s.size : Int)).length + s.size by omega, hx]
  congr 2
  simp [bytesOf_length]
  omega
theorem lS_str (l pre post : List Int) (V : Int) (h : l = pre ++ ([64] ++ uB V) ++ post) (h0 : 0 ≤ V) (h1 : V ≤ 65535) : lS (strOfNums l) (pre.length : Int) = some (V, (pre.length : Int) + (([64] ++ uB V).length : Int)) := by
  have hk := kind_mid l pre (uB V ++ post) 64 (by rw [h]; simp) (by omega) (by omega)
  have hu := uS_str l (pre ++ [64]) post V (by rw [h]; simp) (by omega) (by omega)
  rw [List.length_append, List.length_singleton, show (((pre.length + 1 : Nat)) : Int) = (pre.length : Int) + 1 by omega] at hu
  unfold lS
  rw [if_pos (by rw [hk]; rfl), hu]
  simp only []
  rw [if_neg (by omega)]
  congr 2
  simp
  omega
theorem back_one (k : Nat) (l pre post : List Int) (y : S43) (hy : Ok43 y) (hne : wrB y ≠ []) (h : l = pre ++ wrB y ++ post) (hz : l.length ≤ 100000000) :
    plenumlaw02_read.f (k + 12) (strOfNums l) (pre.length : Int) 0 y.f0 y.f1 y.f2 y.f3 y.f4 = some (true, strOfNums l, ((pre ++ wrB y).length : Int), 0) := by
  have hz' : (strOfNums l).size ≤ 140737488355327 := by rw [strOfNums_size]; omega
  have hp : (pre.length : Int) ≤ 140737488355327 := by
    have : pre.length ≤ l.length := by rw [h]; simp
    omega
  have hL : ((pre ++ wrB y).length : Int) = (pre.length : Int) + ((wrB y).length : Int) := by rw [List.length_append]; omega
  rw [hL]
  unfold plenumlaw02_read.f
  rw [show k + 12 = k + 9 + 3 by omega, rd_kind, Option.bind_some]
  simp only []
  unfold wrB at h hne ⊢
  by_cases k1 : y.f0 = 1
  · rw [if_pos k1] at h ⊢
    have hk := kind_mid l pre post 0 (by rw [h]; simp) (by omega) (by omega)
    rw [if_pos (by rw [hk, k1]; rfl), if_pos k1, rd_null _ _ _ (by omega) hp, if_pos (by rw [hk]; rfl)]
    rfl
  rw [if_neg k1] at h hne ⊢
  by_cases k2 : y.f0 = 2
  · rw [if_pos k2] at h ⊢
    have hk := kind_mid l pre post (if y.f1 = true then 2 else 1) (by rw [h]; simp) (by split <;> omega) (by split <;> omega)
    have hb := bt_mid l pre post (if y.f1 = true then 2 else 1) (by rw [h]; simp) (by split <;> omega) (by split <;> omega)
    have hk2 : kindS (strOfNums l) (pre.length : Int) = 2 := by rw [hk]; split <;> rfl
    rw [if_pos (by rw [hk2, k2]), if_neg k1, if_pos k2, rd_bool _ _ _ (by omega) hp, if_pos hk2, hb]
    cases y.f1 <;> rfl
  rw [if_neg k2] at h hne ⊢
  by_cases k3 : y.f0 = 3
  · rw [if_pos k3] at h ⊢
    have hk := (cnt_mid l pre (beL y.f2 (nb y.f2).toNat ++ post) 16 (nb y.f2) (by rw [h]; simp [uB]) (Or.inl rfl) (nb_range _).1 (nb_range _).2).2
    rw [if_pos rfl] at hk
    rw [if_pos (by rw [hk, k3]), if_neg k1, if_neg k2, if_pos k3, show k + 9 + 3 = k + 12 by omega, rd_unsigned _ _ _ hz']
    unfold rdU
    rw [uS_str l pre post y.f2 h hy.u0 hy.u1]
    simp
  rw [if_neg k3] at h hne ⊢
  by_cases k4 : y.f0 = 4
  · rw [if_pos k4] at h ⊢
    have hr := ss_range y.f3 hy.n0 hy.n1
    have hk := (cnt_mid l pre (beL y.f3 (ss y.f3).toNat ++ post) 32 (ss y.f3) (by rw [h]; simp [sB]) (Or.inr rfl) hr.1 hr.2).2
    rw [if_neg (by decide)] at hk
    rw [if_pos (by rw [hk, k4]), if_neg k1, if_neg k2, if_neg k3, if_pos k4, show k + 9 + 3 = k + 12 by omega, rd_signed _ _ _ hz']
    unfold rdS
    rw [sS_str l pre post y.f3 h hy.n0 hy.n1]
    simp
  rw [if_neg k4] at h hne ⊢
  by_cases k5 : y.f0 = 5
  · rw [if_pos k5] at h hne ⊢
    by_cases hs : y.f4.size > 65535
    · rw [if_pos hs] at hne; exact absurd rfl hne
    rw [if_neg hs] at h ⊢
    have hk := kind_mid l pre (uB (y.f4.size : Int) ++ bytesOf y.f4 ++ post) 48 (by rw [h]; simp) (by omega) (by omega)
    rw [if_pos (by rw [hk, k5]; rfl), if_neg k1, if_neg k2, if_neg k3, if_neg k4, if_pos k5, show k + 9 + 3 = k + 12 by omega, rd_text _ _ _ hz']
    unfold rdT
    rw [tS_str l pre post y.f4 h (by omega)]
    simp
  rw [if_neg k5] at h hne ⊢
  by_cases k6 : y.f0 = 6
  · rw [if_pos k6] at h hne ⊢
    by_cases hs : y.f3 < 0 ∨ 65535 < y.f3
    · rw [if_pos hs] at hne; exact absurd rfl hne
    rw [if_neg hs] at h ⊢
    have hk := kind_mid l pre (uB y.f3 ++ post) 64 (by rw [h]; simp) (by omega) (by omega)
    rw [if_pos (by rw [hk, k6]; rfl), if_neg k1, if_neg k2, if_neg k3, if_neg k4, if_neg k5, show k + 9 + 3 = k + 12 by omega, rd_list _ _ _ hz']
    unfold rdL
    rw [lS_str l pre post y.f3 h (by omega) (by omega)]
    simp
  rw [if_neg k6] at hne
  exact absurd rfl hne
theorem back_eq (k : Nat) (l0 : List S43) (hn : l0.length ≤ 60) (hok : ∀ x ∈ l0, Ok43 x) : Back (k + 12) (strOfNums (bts l0 l0.length)) (wl l0 l0.length) := by
  intro j hj
  have hm := rd43_mem (wl l0 l0.length) j hj
  have hy := wl_mem hm
  have hb := wl_bytes l0
  have hs := bts_succ (wl l0 l0.length) j hj
  have hlen := bts_len l0 hok l0.length (Nat.le_refl _)
  have hl2 : (bts l0 l0.length).length ≤ 60 * 65545 := Nat.le_trans hlen (Nat.mul_le_mul_right _ hn)
  have hd : bts l0 l0.length = bts (wl l0 l0.length) j ++ wrB (rd_T43 (wl l0 l0.length) (j : Int)) ++ ((wl l0 l0.length).drop (j + 1)).flatMap wrB := by
    rw [← hs, ← hb]
    unfold bts
    rw [← List.flatMap_append, List.take_append_drop, List.take_length]
  rw [hs]
  exact back_one k _ _ _ _ (hok _ hy.1) hy.2 hd (by omega)
theorem CodecReads (l : List S43) (hl : l.length * 48 ≤ 140737488351232 ∧ ∀ y ∈ l, V43 y) : ∃ k, plenumlaw02_CodecReads.f k l = some true := by
  obtain ⟨b, hb, hb2⟩ := small_some l 29
  refine ⟨97, ?_⟩
  have hok : ∀ x ∈ l, Ok43 x := fun x hx => ok43 (hl.2 x hx)
  unfold plenumlaw02_CodecReads.f
  rw [if_pos]
  exact ⟨awake_eq 40, b, hb, fun h => ⟨hb2 h, back_eq 88 l (hb2 h) hok⟩, hok⟩
end Go.Proofs.YtndeikikeeeigaaDoor.Pure
end
section
namespace Go.Proofs.YtndeikikeeeigaaDoor.codecReads
open Go.ChangeShapes Go.WideShapes Go.ChangeAt Go.RowKit
open Go.ChangeMaps (open_string shut_string)
open Go.Proofs.YtndeikikeeeigaaDoor.Opn Go.Proofs.YtndeikikeeeigaaDoorW.PrintWords Go.Proofs.YtndeikikeeeigaaDoor.Q
set_option linter.unusedVariables false
theorem own : ownKnob Tryd.prog.godebug = none := by kernel_rfl
theorem laidOut : laidOutB Tryd.prog = true := by kernel_rfl
set_option maxHeartbeats 2000000 in
set_option maxRecDepth 100000 in
theorem lifted (os : Os) (started : os.Started) (H : Type) (enc : TypeId × Value → H) :
    ReturnsInHanded {} Tryd.checked os 8 .any (fun w args => (Rows.codecReadsSpec.pre enc Tryd.prog Tryd.f8 Rows.codecReadsRow.domain false w args ∧ laidMet Tryd.prog theLaid w) ∧ sizedMet enc Tryd.prog Tryd.f8 (OpenSpec.ofChange Rows.codecReadsSpec) false w args) (Rows.codecReadsSpec.post enc Tryd.prog Tryd.f8 false true false false) := by
  refine returnsInHanded_of_change_and (C := Tryd.checked) (X := fun w _ => laidMet Tryd.prog theLaid w) (fun _ _ _ hh h => h.of_heap hh) own started (by kernel_rfl) Tryd.func8
    (ChangeSpec.witness_at (enc := enc) (C := Tryd.checked) (os := os) (X := fun w _ => laidMet Tryd.prog theLaid w) false (laidWorld os) #[.slice none 0 0] 8 rfl (by kernel_rfl) (by kernel_rfl) (by kernel_rfl) (by kernel_rfl) (by kernel_rfl) (laidWorld_met os _)) ?_
  intro W base args ds gs before hval0 hW hcnd hsz0 hL0 _
  have hGl := glob_of_laid hL0
  have hsz : (DataW.weightsEach Tryd.prog (Tryd.f8.params.toList ++ Rows.codecReadsSpec.plain.varTypes Tryd.prog) (ds ++ gs)).all (· ≤ reachBytes) = true := hsz0
  have hval : ∀ (j : Nat) t v, Tryd.f8.params[j]? = some t → args[j]? = some v → Value.okWide Tryd.prog W .any base t v := hval0
  have hW' := hW
  obtain ⟨p, q, hA0, hV, rfl, hfz, hnd⟩ := hW
  have hA : DataW.TrodAll enc Tryd.prog W 0 (fun _ => true) true Tryd.f8.params.toList args.toList ds p := hA0
  rw [Tryd.params8] at hA hval hsz
  obtain ⟨v0, vs0, d0, ds0, p0, q0, hargs, rfl, rfl, h0, r0⟩ := trodAll_cons hA
  obtain ⟨rfl, rfl, rfl⟩ := trodAll_nil r0
  obtain rfl : args = #[v0] := by cases args; simp_all
  obtain ⟨rfl, rfl⟩ := trodVars_none hV
  have k0 := h0
  have lt0 : ∀ x ∈ p0, x.block < W.heap.size := by obtain ⟨m, hm⟩ := k0; exact DataW.trod_lt m _ _ _ hm
  obtain ⟨b0, len0, cap0, hb0⟩ := okWide_slice Tryd.underlying34 (hval 0 34 v0 rfl rfl)
  obtain ⟨A0, c0, l0, hv0, hc0, hr0, hV0⟩ := arg_slice (opn_slice (B := 48) Tryd.underlying34 (by kernel_rfl) (by kernel_rfl) opn43) b0 len0 cap0 hb0 h0 (arg_weights hsz (j := 0) (t := 34) rfl rfl)
  clear hb0
  subst hv0
  clear hA0 hval0 hsz0 hsz
  obtain ⟨k, h⟩ := Pure.CodecReads l0 hV0
  refine (Q.plenumlaw02_CodecReads.calls k A0 c0 l0 true W hGl hr0 hc0 h).mono fun e W' ⟨he, bel0⟩ => ?_
  have bel : Below W.heap.size W W' := bel0
  subst he
  exact ⟨_, rfl, _, _, _, [], _, [], hW', trodAll_mk1 (shut_bool Tryd.underlying4 _), (trodAll_cons_mk (Below.trod laidOut (by kernel_rfl) (of_decide_eq_true (by kernel_rfl)) k0 bel lt0) trodAll_mk0), rfl, bel.frame _, fun h => by cases h⟩
theorem over : Rows.codecReadsRow.holds Tryd.pinned (OpenSpec.ofChange Rows.codecReadsSpec) :=
  OpenClaim.holds_of_wide 8 Tryd.f8 rfl rfl rfl rfl rfl rfl rfl ⟨rfl, rfl, rfl, rfl, rfl⟩ rfl rfl rfl rfl rfl (by kernel_rfl) Tryd.func8 (by kernel_rfl)
    (of_decide_eq_true (by kernel_rfl)) (by unfold Func.isWrapper; first | (rw [if_pos (by decide +kernel)]; kernel_rfl) | (rw [if_neg (by decide +kernel)]; exact ⟨rfl, rfl⟩))
    (fun os started H enc _ => lifted os started H enc)
theorem card_holds : Rows.CodecReadsCardSaid :=
  Claim7.holds_tied_plain_at .later [] [.data] true (true, "df68463a3ead1255f1618a87c8c1347ab87336f1cb44d5b5530c4be1e9654a40") false
    over (fun _ h => by cases h) (by kernel_rfl) (fun _ h => by cases h) codecReads_row_tie rfl ⟨rfl, rfl⟩ (by kernel_rfl) rfl
    (fun f fn hf hfn => by
      obtain rfl : f = 8 := Option.some.inj ((show Tryd.prog.funcNamed "plenum/plenumlaw02.CodecReads" = some 8 by kernel_rfl).symm.trans hf) |>.symm
      obtain rfl : fn = Tryd.f8 := (Option.some.inj (Tryd.func8.symm.trans hfn)).symm
      exact ⟨by kernel_rfl, fun j t ht => by
        rw [Tryd.params8] at ht
        have ho : t = 34 := by
          rcases j with _ | j
          all_goals simp at ht
          all_goals subst ht; simp
        subst ho
        exact (show Tryd.prog.wantsStandIn 34 = false by kernel_rfl)⟩)
    (by kernel_rfl)
#print axioms card_holds
end Go.Proofs.YtndeikikeeeigaaDoor.codecReads
namespace Go.Proofs.YtndeikikeeeigaaDoor
theorem codecReads_holds : Rows.CodecReadsCardSaid := codecReads.card_holds
end Go.Proofs.YtndeikikeeeigaaDoor
end
