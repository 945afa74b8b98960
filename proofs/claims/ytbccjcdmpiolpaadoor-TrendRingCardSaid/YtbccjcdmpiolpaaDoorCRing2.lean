/- TrendRingCard: one part of the proof that the law answers true for every input, and that its arguments read afterwards as before. No condition. -/
import Derived.Test.YtbccjcdmpiolpaaDoorCRing1
import Derived.Outline
import Derived.Deep.OwnRows
import Derived.LoopTactic
section
namespace Go.Proofs.YtbccjcdmpiolpaaDoor.T
open Go.RowKit Go.Proofs.YtbccjcdmpiolpaaDoorW.PrintWords Go.Proofs.YtbccjcdmpiolpaaDoorW.PrintLast Go.Proofs.YtbccjcdmpiolpaaDoorW.PrintMore
attribute [local go_sem] max2_int min2_int max_two min_two max_three min_three max_four min_four
set_option linter.unusedVariables false
set_option linter.unusedSimpArgs false
def codec_raw.l0 : Nat → ByteArray → Int → Int → Int → Int → Int → Int → Option (Int × Int × Bool)
 | 0, _, _, _, _, _, _, _ => none
 | k + 1, x0, x1, x2, x9, x10, x31, x32 => if x32 < x31 then (if 0 ≤ (wrap64 ((wrap64 (x1 + 1)) + x32)) then (if (wrap64 ((wrap64 (x1 + 1)) + x32)) < (x0.size : Int) then (codec_raw.l0 k x0 x1 x2 x9 (Go.bits .or .u64 (IntKind.u64.wrap (x10 * 256)) (IntKind.u64.wrap (bt x0 (wrap64 ((wrap64 (x1 + 1)) + x32))))) x31 (wrap64 (x32 + 1))) else (none)) else (none)) else (if x2 = 3 then ((codec_width.f k x10).bind fun t117 => (some (x10, wrap64 ((wrap64 (x1 + 1)) + x9), (t117 == x9)))) else (if 0 ≤ (wrap64 (64 - (wrap64 (8 * x9)))) then ((codec_spread.f k (shr .i64 (wrap64 (shl .u64 x10 (wrap64 (64 - (wrap64 (8 * x9)))))) (wrap64 (64 - (wrap64 (8 * x9)))))).bind fun t118 => (some (IntKind.u64.wrap (shr .i64 (wrap64 (shl .u64 x10 (wrap64 (64 - (wrap64 (8 * x9)))))) (wrap64 (64 - (wrap64 (8 * x9))))), wrap64 ((wrap64 (x1 + 1)) + x9), (t118 == x9)))) else (none)))
def codec_raw.f (k : Nat) (a0 : ByteArray) (a1 : Int) (a2 : Int) : Option (Int × Int × Bool) := (codec_kind.f k a0 a1).bind fun t116 => (if t116 = a2 then (if 0 ≤ a1 then (if a1 < (a0.size : Int) then (if (wrap64 ((wrap64 (a1 + 1)) + (wrap64 (Go.bits .and .u8 (bt a0 a1) 15)))) > (a0.size : Int) then (some (0, 0, false)) else (codec_raw.l0 k a0 a1 a2 (wrap64 (Go.bits .and .u8 (bt a0 a1) 15)) 0 (wrap64 (Go.bits .and .u8 (bt a0 a1) 15)) 0)) else (none)) else (none)) else (some (0, 0, false)))
set_option maxHeartbeats 8000000 in
set_option maxRecDepth 100000 in
theorem codec_raw.calls (k : Nat) (a0 : ByteArray) (a1 : Int) (a2 : Int) (r1 : Int) (r2 : Int) (r3 : Bool) (w : World) (hG : Glob w) (h : codec_raw.f k a0 a1 a2 = some (r1, r2, r3)) :
  Calls Tryd.prog 64 #[.string a0, .int .i64 a1, .int .i64 a2] w fun e w' => e = .returned (.tuple #[.int .u64 r1, .int .i64 r2, .bool r3]) ∧ Below w.heap.size w w' := by
 have HG := Aside0.mk hG
 clear hG
 have HB := Aside0.mk (Below.refl w.heap.size w)
 have H : ((codec_kind.f k a0 a1).bind fun t116 => (if t116 = a2 then (if 0 ≤ a1 then (if a1 < (a0.size : Int) then (if (wrap64 ((wrap64 (a1 + 1)) + (wrap64 (Go.bits .and .u8 (bt a0 a1) 15)))) > (a0.size : Int) then (some (0, 0, false)) else (codec_raw.l0 k a0 a1 a2 (wrap64 (Go.bits .and .u8 (bt a0 a1) 15)) 0 (wrap64 (Go.bits .and .u8 (bt a0 a1) 15)) 0)) else (none)) else (none)) else (some (0, 0, false)))) = some (r1, r2, r3) := h
 clear h
 replace H := Option.bind_eq_some_iff.mp H
 obtain ⟨t116, A40, H⟩ := H
 replace H : (if t116 = a2 then (if 0 ≤ a1 then (if a1 < (a0.size : Int) then (if (wrap64 ((wrap64 (a1 + 1)) + (wrap64 (Go.bits .and .u8 (bt a0 a1) 15)))) > (a0.size : Int) then (some (0, 0, false)) else (codec_raw.l0 k a0 a1 a2 (wrap64 (Go.bits .and .u8 (bt a0 a1) 15)) 0 (wrap64 (Go.bits .and .u8 (bt a0 a1) 15)) 0)) else (none)) else (none)) else (some (0, 0, false))) = some (r1, r2, r3) := H
 have A4 := Aside0.mk A40
 clear A40
 by_cases c5 : t116 = a2
 ·rw [if_pos c5] at H
  have c5b0 : (t116 == a2) = true := beq_iff_eq.mpr c5
  have c5b1 : (t116 != a2) = false := bne_eq_false_iff_eq.mpr c5
  clear c5
  by_cases c6 : 0 ≤ a1
  ·rw [if_pos c6] at H
   have c6b0 : decide (0 ≤ a1) = true := decide_eq_true c6
   clear c6
   by_cases c7 : a1 < (a0.size : Int)
   ·rw [if_pos c7] at H
    have c7b0 : decide (a1 < (a0.size : Int)) = true := decide_eq_true c7
    clear c7
    by_cases c9 : (wrap64 ((wrap64 (a1 + 1)) + (wrap64 (Go.bits .and .u8 (bt a0 a1) 15)))) > (a0.size : Int)
    ·rw [if_pos c9] at H
     have c9b0 : decide ((a0.size : Int) < (wrap64 ((wrap64 (a1 + 1)) + (wrap64 (Go.bits .and .u8 (bt a0 a1) 15))))) = true := decide_eq_true c9
     clear c9
     simp only [Option.some.injEq, Prod.mk.injEq] at H
     obtain ⟨rfl, rfl, rfl⟩ := H
     go_enter Tryd.func64, Tryd.ntmps64
     go_wp2_with (first | ((with_reducible refine gate_callee (f := 72) rfl ?_); refine goesL_ (some 16) rfl rfl Tryd.func72 (by kernel_rfl) rfl #[.string a0, .int .i64 a1] rfl (by (try simp only [List.map_toArray, List.map_cons, List.map_nil]); first | done | rfl | (simp only [List.length_drop, List.length_take]; rfl)) ?_; (with_reducible refine (codec_kind.calls k a0 a1 t116 _ ?side99  A4.out).mono ?_); (case side99 => first | exact HG.out | exact Glob.below HG.out (by repeat (first | (with_reducible first | exact HB.out | apply below_alloc | apply pw_below_drewN | apply below_drew1) | exact HB.out))); rintro e w' ⟨rfl, ⟨nd, rfl⟩⟩; refine ⟨_, rfl, ?_⟩; have p8 : 0 ≤ (a1 : Int) := of_decide_eq_true (by first | (with_reducible assumption) | assumption); have q8 : a1 < (a0.size : Int) := of_decide_eq_true (by first | (with_reducible assumption) | assumption); have hx8 := bt_at a0 a1; replace p8 := eq_true p8; replace q8 := eq_true q8))
     go_ret3
     exact ⟨by first | rfl | (simp [errW_none, errW_some] <;> rfl) | (simp [*, errW_none, errW_some] <;> rfl), by repeat (first | (with_reducible first | exact HB.out | apply below_alloc | apply pw_below_drewN | apply below_drew1) | exact HB.out)⟩
    ·rw [if_neg c9] at H
     have c9b0 : decide ((a0.size : Int) < (wrap64 ((wrap64 (a1 + 1)) + (wrap64 (Go.bits .and .u8 (bt a0 a1) 15))))) = false := decide_eq_false c9
     clear c9
     have H' := Aside0.mk H
     clear H
     go_enter Tryd.func64, Tryd.ntmps64
     go_wp2_with (first | ((with_reducible refine gate_callee (f := 72) rfl ?_); refine goesL_ (some 16) rfl rfl Tryd.func72 (by kernel_rfl) rfl #[.string a0, .int .i64 a1] rfl (by (try simp only [List.map_toArray, List.map_cons, List.map_nil]); first | done | rfl | (simp only [List.length_drop, List.length_take]; rfl)) ?_; (with_reducible refine (codec_kind.calls k a0 a1 t116 _ ?side99  A4.out).mono ?_); (case side99 => first | exact HG.out | exact Glob.below HG.out (by repeat (first | (with_reducible first | exact HB.out | apply below_alloc | apply pw_below_drewN | apply below_drew1) | exact HB.out))); rintro e w' ⟨rfl, ⟨nd, rfl⟩⟩; refine ⟨_, rfl, ?_⟩; have p8 : 0 ≤ (a1 : Int) := of_decide_eq_true (by first | (with_reducible assumption) | assumption); have q8 : a1 < (a0.size : Int) := of_decide_eq_true (by first | (with_reducible assumption) | assumption); have hx8 := bt_at a0 a1; replace p8 := eq_true p8; replace q8 := eq_true q8))
     go_loopg [10, 32] k (fun kq v10 v32 w' => ∃ (x10_1 : Int) (x32_1 : Int), v10 = .int .u64 x10_1 ∧ v32 = .int .i64 x32_1 ∧ Aside0 (codec_raw.l0 kq a0 a1 a2 (wrap64 (Go.bits .and .u8 (bt a0 a1) 15)) x10_1 (wrap64 (Go.bits .and .u8 (bt a0 a1) 15)) x32_1 = some (r1, r2, r3)) ∧ Aside0 (kq ≤ k) ∧ Aside0 (Below w.heap.size w w'))
     case atStart => exact ⟨(0), (0), (by first | rfl | (simp; done) | (simp [*]; done)), (by first | rfl | (simp; done) | (simp [*]; done)), H', ⟨Nat.le_refl _⟩, ⟨by repeat (first | (with_reducible first | exact HB.out | apply below_alloc | apply pw_below_drewN | apply below_drew1) | exact HB.out)⟩⟩
     case round =>
      clear H'
      try clear p2
      try clear c5
      try clear c5b0
      try clear c5b1
      try clear c6
      try clear c6b0
      try clear p6
      try clear c7
      try clear c7b0
      try clear p8
      try clear q8
      try clear hx8
      try clear c9
      try clear c9b0
      try clear p8
      try clear q8
      obtain ⟨x10_1, x32_1, rfl, rfl, HA, HK1, HB⟩ := hrel
      cases gk with
      | zero => exact absurd HA.out (by simp [codec_raw.l0])
      | succ k1 =>
       have H := HA.out
       clear HA
       simp only [codec_raw.l0] at H
       by_cases c10 : x32_1 < (wrap64 (Go.bits .and .u8 (bt a0 a1) 15))
       ·rw [if_pos c10] at H
        have c10b0 : decide (x32_1 < (wrap64 (Go.bits .and .u8 (bt a0 a1) 15))) = true := decide_eq_true c10
        clear c10
        obtain ⟨ji11, hji11⟩ : ∃ j_ : Int, (wrap64 ((wrap64 (a1 + 1)) + x32_1)) = j_ := ⟨_, rfl⟩
        replace H : (if 0 ≤ (ji11) then (if (ji11) < (a0.size : Int) then (codec_raw.l0 k1 a0 a1 a2 (wrap64 (Go.bits .and .u8 (bt a0 a1) 15)) (Go.bits .or .u64 (IntKind.u64.wrap (x10_1 * 256)) (IntKind.u64.wrap (bt a0 (ji11)))) (wrap64 (Go.bits .and .u8 (bt a0 a1) 15)) (wrap64 (x32_1 + 1))) else (none)) else (none)) = some (r1, r2, r3) := by first | (rw [hji11] at H; exact H) | (simp only [hji11] at H ⊢; exact H)
        have hji11w : (IntKind.i64.wrap ((wrap64 (a1 + 1)) + x32_1)) = ji11 := (i64_w _).trans hji11
        by_cases c12 : 0 ≤ (ji11)
        ·rw [if_pos c12] at H
         have c12b0 : decide (0 ≤ (ji11)) = true := decide_eq_true c12
         clear c12
         by_cases c13 : (ji11) < (a0.size : Int)
         ·rw [if_pos c13] at H
          have c13b0 : decide ((ji11) < (a0.size : Int)) = true := decide_eq_true c13
          clear c13
          have H' := Aside0.mk H
          clear H
          have p14 : 0 ≤ ((ji11) : Int) := of_decide_eq_true (by first | (with_reducible assumption) | assumption)
          have q14 : (ji11) < (a0.size : Int) := of_decide_eq_true (by first | (with_reducible assumption) | assumption)
          have hx14 := bt_at a0 (ji11)
          replace p14 := eq_true p14
          replace q14 := eq_true q14
          go_wp2
          go_roundg k1
          case measure => have := HK1.out; omega
          case rel => exact ⟨(Go.bits .or .u64 (IntKind.u64.wrap (x10_1 * 256)) (IntKind.u64.wrap (bt a0 (ji11)))), (wrap64 (x32_1 + 1)), (by first | rfl | (simp; done) | (simp only [← hji11] <;> (first | rfl | simp)) | (simp [*]; done)), (by first | rfl | (simp; done) | (simp [*]; done)), H', ⟨by have := HK1.out; omega⟩, ⟨by repeat (first | (with_reducible first | exact HB.out | apply below_alloc | apply pw_below_drewN | apply below_drew1) | exact HB.out)⟩⟩
         ·rw [if_neg c13] at H
          exact absurd H (by simp)
        ·rw [if_neg c12] at H
         exact absurd H (by simp)
       ·rw [if_neg c10] at H
        have c10b0 : decide (x32_1 < (wrap64 (Go.bits .and .u8 (bt a0 a1) 15))) = false := decide_eq_false c10
        clear c10
        by_cases c15 : a2 = 3
        ·rw [if_pos c15] at H
         have c15b0 : (a2 == 3) = true := beq_iff_eq.mpr c15
         have c15b1 : (a2 != 3) = false := bne_eq_false_iff_eq.mpr c15
         clear c15
         replace H := Option.bind_eq_some_iff.mp H
         obtain ⟨t117, A160, H⟩ := H
         replace H : (some (x10_1, wrap64 ((wrap64 (a1 + 1)) + (wrap64 (Go.bits .and .u8 (bt a0 a1) 15))), (t117 == (wrap64 (Go.bits .and .u8 (bt a0 a1) 15))))) = some (r1, r2, r3) := H
         have A16 := Aside0.mk A160
         clear A160
         simp only [Option.some.injEq, Prod.mk.injEq] at H
         obtain ⟨rfl, rfl, rfl⟩ := H
         go_wp2_with (first | ((with_reducible refine gate_callee (f := 70) rfl ?_); refine goesL_ (some 54) rfl rfl Tryd.func70 (by kernel_rfl) rfl #[.int .u64 x10_1] rfl (by (try simp only [List.map_toArray, List.map_cons, List.map_nil]); first | done | rfl | (simp only [List.length_drop, List.length_take]; rfl)) ?_; (with_reducible refine (codec_width.calls k1 x10_1 t117 _ ?side99  A16.out).mono ?_); (case side99 => first | exact HG.out | exact Glob.below HG.out (by repeat (first | (with_reducible first | exact HB.out | apply below_alloc | apply pw_below_drewN | apply below_drew1) | exact HB.out))); rintro e w17 ⟨rfl, hb⟩; refine ⟨_, rfl, ?_⟩; have n0_ := Aside0.mk (below_step (by repeat (first | (with_reducible first | exact HB.out | apply below_alloc | apply pw_below_drewN | apply below_drew1) | exact HB.out)) hb); clear HB; have HB := n0_; clear n0_; (try clear hb); (try clear hb2); (try clear hk); (try clear hi)))
         go_ret3
         exact ⟨by first | rfl | (simp [errW_none, errW_some] <;> rfl) | (simp [*, errW_none, errW_some] <;> rfl), by repeat (first | (with_reducible first | exact HB.out | apply below_alloc | apply pw_below_drewN | apply below_drew1) | exact HB.out)⟩
        ·rw [if_neg c15] at H
         have c15b0 : (a2 == 3) = false := beq_eq_false_iff_ne.mpr c15
         have c15b1 : (a2 != 3) = true := bne_iff_ne.mpr c15
         obtain ⟨ji18, hji18⟩ : ∃ j_ : Int, (wrap64 (64 - (wrap64 (8 * (wrap64 (Go.bits .and .u8 (bt a0 a1) 15)))))) = j_ := ⟨_, rfl⟩
         replace H : (if 0 ≤ (ji18) then ((codec_spread.f k1 (shr .i64 (wrap64 (shl .u64 x10_1 (ji18))) (ji18))).bind fun t118 => (some (IntKind.u64.wrap (shr .i64 (wrap64 (shl .u64 x10_1 (ji18))) (ji18)), wrap64 ((wrap64 (a1 + 1)) + (wrap64 (Go.bits .and .u8 (bt a0 a1) 15))), (t118 == (wrap64 (Go.bits .and .u8 (bt a0 a1) 15)))))) else (none)) = some (r1, r2, r3) := by first | (rw [hji18] at H; exact H) | (simp only [hji18] at H ⊢; exact H)
         have hji18w : (IntKind.i64.wrap (64 - (wrap64 (8 * (wrap64 (Go.bits .and .u8 (bt a0 a1) 15)))))) = ji18 := (i64_w _).trans hji18
         by_cases c19 : 0 ≤ (ji18)
         ·rw [if_pos c19] at H
          have c19b0 := eq_true c19
          have c19b1 : decide (0 ≤ (ji18)) = true := decide_eq_true c19
          clear c19
          obtain ⟨ji20, hji20⟩ : ∃ j_ : Int, (shl .u64 x10_1 (ji18)) = j_ := ⟨_, rfl⟩
          replace H : ((codec_spread.f k1 (shr .i64 (wrap64 (ji20)) (ji18))).bind fun t118 => (some (IntKind.u64.wrap (shr .i64 (wrap64 (ji20)) (ji18)), wrap64 ((wrap64 (a1 + 1)) + (wrap64 (Go.bits .and .u8 (bt a0 a1) 15))), (t118 == (wrap64 (Go.bits .and .u8 (bt a0 a1) 15)))))) = some (r1, r2, r3) := by first | (rw [hji20] at H; exact H) | (simp only [hji20] at H ⊢; exact H)
          have hji20_ : (IntKind.u64.wrap (x10_1 * 2 ^ min (ji18).toNat 64)) = ji20 := hji20
          have hji20z : (ji18) ≤ 64 → (IntKind.u64.wrap (x10_1 * 2 ^ (ji18).toNat)) = ji20 := shl_small hji20
          have c21b0 := eq_true (of_decide_eq_true (by first | (with_reducible assumption) | assumption) : 0 ≤ (ji18))
          obtain ⟨ji22, hji22⟩ : ∃ j_ : Int, (shr .i64 (wrap64 (ji20)) (ji18)) = j_ := ⟨_, rfl⟩
          replace H : ((codec_spread.f k1 (ji22)).bind fun t118 => (some (IntKind.u64.wrap (ji22), wrap64 ((wrap64 (a1 + 1)) + (wrap64 (Go.bits .and .u8 (bt a0 a1) 15))), (t118 == (wrap64 (Go.bits .and .u8 (bt a0 a1) 15)))))) = some (r1, r2, r3) := by first | (rw [hji22] at H; exact H) | (simp only [hji22] at H ⊢; exact H)
          have hji22_ : ((wrap64 (ji20)) / 2 ^ min (ji18).toNat 64) = ji22 := hji22
          have hji22z : (ji18) ≤ 64 → ((wrap64 (ji20)) / 2 ^ (ji18).toNat) = ji22 := shr_small hji22
          replace H := Option.bind_eq_some_iff.mp H
          obtain ⟨t118, A230, H⟩ := H
          replace H : (some (IntKind.u64.wrap (ji22), wrap64 ((wrap64 (a1 + 1)) + (wrap64 (Go.bits .and .u8 (bt a0 a1) 15))), (t118 == (wrap64 (Go.bits .and .u8 (bt a0 a1) 15))))) = some (r1, r2, r3) := H
          have A23 := Aside0.mk A230
          clear A230
          simp only [Option.some.injEq, Prod.mk.injEq] at H
          obtain ⟨rfl, rfl, rfl⟩ := H
          go_wp2_with (first | ((with_reducible refine gate_callee (f := 71) rfl ?_); refine goesL_ (some 73) rfl rfl Tryd.func71 (by kernel_rfl) rfl #[.int .i64 ji22] rfl (by (try simp only [List.map_toArray, List.map_cons, List.map_nil]); first | done | (simp only [hji22]; rfl) | rfl | (simp only [List.length_drop, List.length_take]; rfl)) ?_; (with_reducible refine (codec_spread.calls k1 ji22 t118 _ ?side99  A23.out).mono ?_); (case side99 => first | exact HG.out | exact Glob.below HG.out (by repeat (first | (with_reducible first | exact HB.out | apply below_alloc | apply pw_below_drewN | apply below_drew1) | exact HB.out))); rintro e w' ⟨rfl, ⟨nd, rfl⟩⟩; refine ⟨_, rfl, ?_⟩))
          go_ret3
          exact ⟨by first | rfl | (simp [errW_none, errW_some] <;> rfl) | (simp only [← hji18, ← hji20, ← hji22]; first | rfl | (simp [errW_none, errW_some] <;> rfl)) | (simp [*, errW_none, errW_some] <;> rfl), by repeat (first | (with_reducible first | exact HB.out | apply below_alloc | apply pw_below_drewN | apply below_drew1) | exact HB.out)⟩
         ·rw [if_neg c19] at H
          exact absurd H (by simp)
   ·rw [if_neg c7] at H
    exact absurd H (by simp)
  ·rw [if_neg c6] at H
   exact absurd H (by simp)
 ·rw [if_neg c5] at H
  have c5b0 : (t116 == a2) = false := beq_eq_false_iff_ne.mpr c5
  have c5b1 : (t116 != a2) = true := bne_iff_ne.mpr c5
  simp only [Option.some.injEq, Prod.mk.injEq] at H
  obtain ⟨rfl, rfl, rfl⟩ := H
  go_enter Tryd.func64, Tryd.ntmps64
  go_wp2_with (first | ((with_reducible refine gate_callee (f := 72) rfl ?_); refine goesL_ (some 16) rfl rfl Tryd.func72 (by kernel_rfl) rfl #[.string a0, .int .i64 a1] rfl (by (try simp only [List.map_toArray, List.map_cons, List.map_nil]); first | done | rfl | (simp only [List.length_drop, List.length_take]; rfl)) ?_; (with_reducible refine (codec_kind.calls k a0 a1 t116 _ ?side99  A4.out).mono ?_); (case side99 => first | exact HG.out | exact Glob.below HG.out (by repeat (first | (with_reducible first | exact HB.out | apply below_alloc | apply pw_below_drewN | apply below_drew1) | exact HB.out))); rintro e w' ⟨rfl, ⟨nd, rfl⟩⟩; refine ⟨_, rfl, ?_⟩))
  go_ret3
  exact ⟨by first | rfl | (simp [errW_none, errW_some] <;> rfl) | (simp [*, errW_none, errW_some] <;> rfl), by repeat (first | (with_reducible first | exact HB.out | apply below_alloc | apply pw_below_drewN | apply below_drew1) | exact HB.out)⟩
end Go.Proofs.YtbccjcdmpiolpaaDoor.T
end
section
namespace Go.Proofs.YtbccjcdmpiolpaaDoor.T
open Go.RowKit Go.Proofs.YtbccjcdmpiolpaaDoorW.PrintWords Go.Proofs.YtbccjcdmpiolpaaDoorW.PrintLast Go.Proofs.YtbccjcdmpiolpaaDoorW.PrintMore
attribute [local go_sem] max2_int min2_int max_two min_two max_three min_three max_four min_four
set_option linter.unusedVariables false
set_option linter.unusedSimpArgs false
end Go.Proofs.YtbccjcdmpiolpaaDoor.T
end
section
namespace Go.Proofs.YtbccjcdmpiolpaaDoor.T
open Go.RowKit Go.Proofs.YtbccjcdmpiolpaaDoorW.PrintWords Go.Proofs.YtbccjcdmpiolpaaDoorW.PrintLast Go.Proofs.YtbccjcdmpiolpaaDoorW.PrintMore
attribute [local go_sem] max2_int min2_int max_two min_two max_three min_three max_four min_four
set_option linter.unusedVariables false
set_option linter.unusedSimpArgs false
end Go.Proofs.YtbccjcdmpiolpaaDoor.T
end
section
namespace Go.Proofs.YtbccjcdmpiolpaaDoor.T
open Go.RowKit Go.Proofs.YtbccjcdmpiolpaaDoorW.PrintWords Go.Proofs.YtbccjcdmpiolpaaDoorW.PrintLast Go.Proofs.YtbccjcdmpiolpaaDoorW.PrintMore
attribute [local go_sem] max2_int min2_int max_two min_two max_three min_three max_four min_four
set_option linter.unusedVariables false
set_option linter.unusedSimpArgs false
end Go.Proofs.YtbccjcdmpiolpaaDoor.T
end
section
namespace Go.Proofs.YtbccjcdmpiolpaaDoor.T
open Go.RowKit Go.Proofs.YtbccjcdmpiolpaaDoorW.PrintWords Go.Proofs.YtbccjcdmpiolpaaDoorW.PrintLast Go.Proofs.YtbccjcdmpiolpaaDoorW.PrintMore
attribute [local go_sem] max2_int min2_int max_two min_two max_three min_three max_four min_four
set_option linter.unusedVariables false
set_option linter.unusedSimpArgs false
end Go.Proofs.YtbccjcdmpiolpaaDoor.T
end
section
namespace Go.Proofs.YtbccjcdmpiolpaaDoor.T
open Go.RowKit Go.Proofs.YtbccjcdmpiolpaaDoorW.PrintWords Go.Proofs.YtbccjcdmpiolpaaDoorW.PrintLast Go.Proofs.YtbccjcdmpiolpaaDoorW.PrintMore
attribute [local go_sem] max2_int min2_int max_two min_two max_three min_three max_four min_four
set_option linter.unusedVariables false
set_option linter.unusedSimpArgs false
end Go.Proofs.YtbccjcdmpiolpaaDoor.T
end
section
namespace Go.Proofs.YtbccjcdmpiolpaaDoor.Pure
open Go.RowKit Go.Proofs.YtbccjcdmpiolpaaDoor.T Go.Proofs.YtbccjcdmpiolpaaDoorW.PrintWords Go.Proofs.YtbccjcdmpiolpaaDoorW.PrintLast Go.Proofs.YtbccjcdmpiolpaaDoorW.PrintMore
set_option linter.unusedVariables false
set_option linter.unusedSimpArgs false
def kd (b : Int) : Int := if b = 0 then 1 else if b = 1 ∨ b = 2 then 2 else if 16 < b ∧ b ≤ 24 then 3 else if 32 < b ∧ b ≤ 40 then 4 else if b = 48 then 5 else if b = 64 then 6 else 0
def kindS (s : ByteArray) (p : Int) : Int := if p < 0 ∨ p ≥ (s.size : Int) then 0 else kd (bt s p)
theorem byte_fin (s : ByteArray) (p : Int) : ∃ m : Fin 256, ((m.val : Nat) : Int) = bt s p := by
 have := bt_range s p
 exact ⟨⟨(bt s p).toNat, by omega⟩, by show (((bt s p).toNat : Nat) : Int) = _; omega⟩
theorem kind_eq (k : Nat) (s : ByteArray) (p : Int) : codec_kind.f (k + 3) s p = some (kindS s p) := by
 have h1 : ∀ x5 x6 x31, codec_kind.j1 (k + 2) x5 x6 x31 = codec_kind.j1 2 x5 x6 x31 := by intros; simp only [codec_kind.j1, codec_kind.j2]
 unfold codec_kind.f kindS
 by_cases c : p < 0
 ·rw [if_pos c, if_pos (Or.inl c)]; simp only [codec_kind.j0, if_true]
 ·by_cases c2 : p ≥ (s.size : Int)
  ·rw [if_neg c, if_pos (Or.inr c2), decide_eq_true c2]; simp only [codec_kind.j0, if_true]
  ·rw [if_neg c, if_neg (by omega), decide_eq_false c2]; simp only [codec_kind.j0, Bool.false_eq_true, if_false]
   rw [if_pos (by omega), if_pos (by omega)]
   simp only [h1]
   obtain ⟨m, hm⟩ := byte_fin s p
   rw [← hm]
   have hb : ∀ m : Fin 256, (if ((m.val : Nat) : Int) = 0 then (some 1) else (if (((m.val : Nat) : Int) / 16) > 4 then (some 0) else (if (((m.val : Nat) : Int) / 16) = 0 then (codec_kind.j1 2 (((m.val : Nat) : Int) / 16) (Go.bits .and .u8 ((m.val : Nat) : Int) 15) (decide ((Go.bits .and .u8 ((m.val : Nat) : Int) 15) > 2))) else (codec_kind.j1 2 (((m.val : Nat) : Int) / 16) (Go.bits .and .u8 ((m.val : Nat) : Int) 15) false)))) = some (kd ((m.val : Nat) : Int)) := by decide +kernel
   exact hb m
theorem kindS_in {s : ByteArray} {p : Int} (h : kindS s p ≠ 0) : 0 ≤ p ∧ p < (s.size : Int) ∧ kindS s p = kd (bt s p) := by
 unfold kindS at *
 split at h
 ·exact absurd rfl h
 ·rename_i c
  exact ⟨by omega, by omega, if_neg c⟩
theorem kd3 {b : Int} : kd b = 3 ↔ 16 < b ∧ b ≤ 24 := by unfold kd; omega
theorem kd4 {b : Int} : kd b = 4 ↔ 32 < b ∧ b ≤ 40 := by unfold kd; omega
def beN (s : ByteArray) (q : Int) : Nat → Int
 | 0 => 0
 | n + 1 => beN s q n * 256 + bt s (q + (n : Int))
theorem beN_range (s : ByteArray) (q : Int) (n : Nat) : 0 ≤ beN s q n ∧ beN s q n < 256 ^ n := by
 induction n with
 | zero => simp [beN]
 | succ n ih =>
  have := bt_range s (q + n)
  rw [Int.pow_succ]
  simp only [beN]
  omega
theorem pow256 {n m : Nat} (h : n ≤ m) : (256 : Int) ^ n ≤ 256 ^ m := by
 have := Nat.pow_le_pow_right (n := 256) (by decide) h
 have e : ∀ j : Nat, (256 : Int) ^ j = ((256 ^ j : Nat) : Int) := fun j => by rw [Int.natCast_pow]; rfl
 rw [e, e]
 omega
theorem beN_lt {s : ByteArray} {q : Int} {n m : Nat} (h : n ≤ m) : beN s q n < 256 ^ m := by
 have h1 := (beN_range s q n).2
 have h2 := pow256 h
 omega
def sgn (n : Nat) (V : Int) : Int := if V < 128 * 256 ^ (n - 1) then V else V - 256 ^ n
theorem sgn_range {n : Nat} {V : Int} (h1 : 1 ≤ n) (h8 : n ≤ 8) (h : 0 ≤ V ∧ V < 256 ^ n) : -9223372036854775808 ≤ sgn n V ∧ sgn n V ≤ 9223372036854775807 := by
 unfold sgn
 obtain rfl | rfl | rfl | rfl | rfl | rfl | rfl | rfl : n = 1 ∨ n = 2 ∨ n = 3 ∨ n = 4 ∨ n = 5 ∨ n = 6 ∨ n = 7 ∨ n = 8 := by omega
 all_goals simp only [Int.reducePow, Nat.reduceSub] at h ⊢
 all_goals split <;> omega
theorem sgn_shift {n : Nat} {V : Int} (h1 : 1 ≤ n) (h8 : n ≤ 8) (h : 0 ≤ V ∧ V < 256 ^ n) : shr .i64 (wrap64 (shl .u64 V (wrap64 (64 - (wrap64 (8 * (n : Int))))))) (wrap64 (64 - (wrap64 (8 * (n : Int))))) = sgn n V := by
 have hw : wrap64 (64 - (wrap64 (8 * (n : Int)))) = 64 - 8 * (n : Int) := by rw [w64 (n := 8 * (n : Int)) (by omega) (by omega), w64 (by omega) (by omega)]
 rw [hw]
 unfold sgn shr shl
 obtain rfl | rfl | rfl | rfl | rfl | rfl | rfl | rfl : n = 1 ∨ n = 2 ∨ n = 3 ∨ n = 4 ∨ n = 5 ∨ n = 6 ∨ n = 7 ∨ n = 8 := by omega
 ·rw [show (2 : Int) ^ min (64 - 8 * ((1 : Nat) : Int)).toNat IntKind.u64.bits = 72057594037927936 from rfl, show (2 : Int) ^ min (64 - 8 * ((1 : Nat) : Int)).toNat IntKind.i64.bits = 72057594037927936 from rfl, u64w]; unfold wrap64; simp only [Int.reducePow, Nat.reduceSub] at h ⊢; split <;> omega
 ·rw [show (2 : Int) ^ min (64 - 8 * ((2 : Nat) : Int)).toNat IntKind.u64.bits = 281474976710656 from rfl, show (2 : Int) ^ min (64 - 8 * ((2 : Nat) : Int)).toNat IntKind.i64.bits = 281474976710656 from rfl, u64w]; unfold wrap64; simp only [Int.reducePow, Nat.reduceSub] at h ⊢; split <;> omega
 ·rw [show (2 : Int) ^ min (64 - 8 * ((3 : Nat) : Int)).toNat IntKind.u64.bits = 1099511627776 from rfl, show (2 : Int) ^ min (64 - 8 * ((3 : Nat) : Int)).toNat IntKind.i64.bits = 1099511627776 from rfl, u64w]; unfold wrap64; simp only [Int.reducePow, Nat.reduceSub] at h ⊢; split <;> omega
 ·rw [show (2 : Int) ^ min (64 - 8 * ((4 : Nat) : Int)).toNat IntKind.u64.bits = 4294967296 from rfl, show (2 : Int) ^ min (64 - 8 * ((4 : Nat) : Int)).toNat IntKind.i64.bits = 4294967296 from rfl, u64w]; unfold wrap64; simp only [Int.reducePow, Nat.reduceSub] at h ⊢; split <;> omega
 ·rw [show (2 : Int) ^ min (64 - 8 * ((5 : Nat) : Int)).toNat IntKind.u64.bits = 16777216 from rfl, show (2 : Int) ^ min (64 - 8 * ((5 : Nat) : Int)).toNat IntKind.i64.bits = 16777216 from rfl, u64w]; unfold wrap64; simp only [Int.reducePow, Nat.reduceSub] at h ⊢; split <;> omega
 ·rw [show (2 : Int) ^ min (64 - 8 * ((6 : Nat) : Int)).toNat IntKind.u64.bits = 65536 from rfl, show (2 : Int) ^ min (64 - 8 * ((6 : Nat) : Int)).toNat IntKind.i64.bits = 65536 from rfl, u64w]; unfold wrap64; simp only [Int.reducePow, Nat.reduceSub] at h ⊢; split <;> omega
 ·rw [show (2 : Int) ^ min (64 - 8 * ((7 : Nat) : Int)).toNat IntKind.u64.bits = 256 from rfl, show (2 : Int) ^ min (64 - 8 * ((7 : Nat) : Int)).toNat IntKind.i64.bits = 256 from rfl, u64w]; unfold wrap64; simp only [Int.reducePow, Nat.reduceSub] at h ⊢; split <;> omega
 ·rw [show (2 : Int) ^ min (64 - 8 * ((8 : Nat) : Int)).toNat IntKind.u64.bits = 1 from rfl, show (2 : Int) ^ min (64 - 8 * ((8 : Nat) : Int)).toNat IntKind.i64.bits = 1 from rfl, u64w]; unfold wrap64; simp only [Int.reducePow, Nat.reduceSub] at h ⊢; split <;> omega
def cnt (s : ByteArray) (p : Int) : Nat := (bt s p % 16).toNat
def val (s : ByteArray) (p : Int) : Int := beN s (p + 1) (cnt s p)
def rawS (s : ByteArray) (p want : Int) : Int × Int × Bool :=
 if kindS s p = want then
  if p + 1 + (cnt s p : Int) > (s.size : Int) then (0, 0, false)
  else if want = 3 then (val s p, p + 1 + (cnt s p : Int), nb (val s p) == (cnt s p : Int))
  else (IntKind.u64.wrap (sgn (cnt s p) (val s p)), p + 1 + (cnt s p : Int), ss (sgn (cnt s p) (val s p)) == (cnt s p : Int))
 else (0, 0, false)
theorem raw_loop (s : ByteArray) (p want : Int) (n : Nat) (hp : 0 ≤ p) (h1 : 1 ≤ n) (h8 : n ≤ 8) (hn : p + 1 + (n : Int) ≤ (s.size : Int)) (hz : s.size ≤ 140737488355327) :
  ∀ (d i : Nat), i + d = n → ∀ k, codec_raw.l0 (k + d + 2) s p want n (beN s (p + 1) i) n i =
   if want = 3 then some (beN s (p + 1) n, p + 1 + (n : Int), nb (beN s (p + 1) n) == (n : Int)) else some (IntKind.u64.wrap (sgn n (beN s (p + 1) n)), p + 1 + (n : Int), ss (sgn n (beN s (p + 1) n)) == (n : Int)) := by
 intro d
 have w1 : wrap64 (p + 1) = p + 1 := w64 (by omega) (by omega)
 induction d with
 | zero =>
  intro i hi k
  obtain rfl : i = n := by omega
  have hr := beN_range s (p + 1) i
  have hlt : beN s (p + 1) i < 256 ^ 8 := beN_lt h8
  simp only [Int.reducePow] at hlt
  have hr' := sgn_range h1 h8 hr
  show codec_raw.l0 ((k + 1) + 1) s p want i _ i i = _
  rw [codec_raw.l0]
  rw [if_neg (by omega), w1, w64 (n := p + 1 + (i : Int)) (by omega) (by omega)]
  by_cases c : want = 3
  ·rw [if_pos c, if_pos c, width_eq _ _ hr.1 (by omega)]; rfl
  ·have hw : 0 ≤ wrap64 (64 - (wrap64 (8 * (i : Int)))) := by rw [w64 (n := 8 * (i : Int)) (by omega) (by omega), w64 (by omega) (by omega)]; omega
   rw [if_neg c, if_neg c, if_pos hw, sgn_shift h1 h8 hr, spread_eq _ _ hr'.1 hr'.2]; rfl
 | succ d ih =>
  intro i hi k
  have hr := beN_range s (p + 1) i
  have hlt : beN s (p + 1) i < 256 ^ 7 := beN_lt (by omega)
  simp only [Int.reducePow] at hlt
  have hb := bt_range s (p + 1 + (i : Int))
  show codec_raw.l0 ((k + d + 2) + 1) s p want n _ n i = _
  rw [codec_raw.l0]
  rw [if_pos (by omega), w1, w64 (n := p + 1 + (i : Int)) (by omega) (by omega), if_pos (by omega), if_pos (by omega), w64 (n := (i : Int) + 1) (by omega) (by omega), u64w, u64w,
   Int.emod_eq_of_lt (b := 18446744073709551616) (a := beN s (p + 1) i * 256) (by omega) (by omega), Int.emod_eq_of_lt (b := 18446744073709551616) (a := bt s (p + 1 + (i : Int))) (by omega) (by omega), or_u64 _ _ hr.1 (by omega) hb.1 (by omega)]
  have := ih (i + 1) (by omega) k
  have e : ((i + 1 : Nat) : Int) = (i : Int) + 1 := by omega
  rw [e] at this
  exact this
theorem raw_eq (k : Nat) (s : ByteArray) (p want : Int) (hw : want = 3 ∨ want = 4) (hz : s.size ≤ 140737488355327) : codec_raw.f (k + 12) s p want = some (rawS s p want) := by
 unfold codec_raw.f rawS
 rw [show k + 12 = (k + 9) + 3 from rfl, kind_eq]
 simp only [Option.bind_some]
 by_cases c : kindS s p = want
 ·rw [if_pos c, if_pos c]
  obtain ⟨p0, p1, hk⟩ := kindS_in (s := s) (p := p) (by omega)
  have hb : (16 < bt s p ∧ bt s p ≤ 24) ∨ (32 < bt s p ∧ bt s p ≤ 40) := by
   rcases hw with rfl | rfl
   ·left; exact kd3.1 (hk.symm.trans c)
   ·right; exact kd4.1 (hk.symm.trans c)
  have hc : (bt s p % 16) = (cnt s p : Int) := by unfold cnt; omega
  have h1 : 1 ≤ bt s p % 16 ∧ bt s p % 16 ≤ 8 := by omega
  rw [if_pos p0, if_pos p1, and15_bt, hc]
  rw [hc] at h1
  rw [w64 (n := (cnt s p : Int)) (by omega) (by omega), w64 (n := p + 1) (by omega) (by omega), w64 (n := p + 1 + (cnt s p : Int)) (by omega) (by omega)]
  by_cases c2 : p + 1 + (cnt s p : Int) > (s.size : Int)
  ·rw [if_pos c2, if_pos c2]
  ·rw [if_neg c2, if_neg c2]
   have := raw_loop s p want (cnt s p) p0 (by omega) (by omega) (by omega) hz (cnt s p) 0 (by omega) (k + 10 - cnt s p)
   rw [show k + 10 - cnt s p + cnt s p + 2 = k + 9 + 3 by omega] at this
   refine this.trans ?_
   unfold val
   split <;> rfl
 ·rw [if_neg c, if_neg c]
end Go.Proofs.YtbccjcdmpiolpaaDoor.Pure
end
section
namespace Go.Proofs.YtbccjcdmpiolpaaDoor.T
open Go.RowKit Go.Proofs.YtbccjcdmpiolpaaDoorW.PrintWords Go.Proofs.YtbccjcdmpiolpaaDoorW.PrintLast Go.Proofs.YtbccjcdmpiolpaaDoorW.PrintMore
attribute [local go_sem] max2_int min2_int max_two min_two max_three min_three max_four min_four
set_option linter.unusedVariables false
set_option linter.unusedSimpArgs false
def codec_list.f (k : Nat) (a0 : ByteArray) (a1 : Int) : Option (Int × Int × Bool) := (codec_kind.f k a0 a1).bind fun t119 => (if t119 = 6 then ((codec_raw.f k a0 (wrap64 (a1 + 1)) 3).bind fun bt120 => (if bt120.2.2 = true then (if bt120.1 > 65535 then (some (0, 0, false)) else (some (wrap64 (bt120.1), bt120.2.1, true))) else (some (0, 0, false)))) else (some (0, 0, false)))
set_option maxHeartbeats 8000000 in
set_option maxRecDepth 100000 in
theorem codec_list.calls (k : Nat) (a0 : ByteArray) (a1 : Int) (r1 : Int) (r2 : Int) (r3 : Bool) (w : World) (hG : Glob w) (h : codec_list.f k a0 a1 = some (r1, r2, r3)) :
  Calls Tryd.prog 61 #[.string a0, .int .i64 a1] w fun e w' => e = .returned (.tuple #[.int .i64 r1, .int .i64 r2, .bool r3]) ∧ Below w.heap.size w w' := by
 have HG := Aside0.mk hG
 clear hG
 have HB := Aside0.mk (Below.refl w.heap.size w)
 have H : ((codec_kind.f k a0 a1).bind fun t119 => (if t119 = 6 then ((codec_raw.f k a0 (wrap64 (a1 + 1)) 3).bind fun bt120 => (if bt120.2.2 = true then (if bt120.1 > 65535 then (some (0, 0, false)) else (some (wrap64 (bt120.1), bt120.2.1, true))) else (some (0, 0, false)))) else (some (0, 0, false)))) = some (r1, r2, r3) := h
 clear h
 replace H := Option.bind_eq_some_iff.mp H
 obtain ⟨t119, A30, H⟩ := H
 replace H : (if t119 = 6 then ((codec_raw.f k a0 (wrap64 (a1 + 1)) 3).bind fun bt120 => (if bt120.2.2 = true then (if bt120.1 > 65535 then (some (0, 0, false)) else (some (wrap64 (bt120.1), bt120.2.1, true))) else (some (0, 0, false)))) else (some (0, 0, false))) = some (r1, r2, r3) := H
 have A3 := Aside0.mk A30
 clear A30
 by_cases c4 : t119 = 6
 ·rw [if_pos c4] at H
  have c4b0 : (t119 == 6) = true := beq_iff_eq.mpr c4
  have c4b1 : (t119 != 6) = false := bne_eq_false_iff_eq.mpr c4
  clear c4
  replace H := Option.bind_eq_some_iff.mp H
  obtain ⟨⟨t120, t121, t122⟩, A50, H⟩ := H
  replace H : (if t122 = true then (if t120 > 65535 then (some (0, 0, false)) else (some (wrap64 (t120), t121, true))) else (some (0, 0, false))) = some (r1, r2, r3) := H
  have A5 := Aside0.mk A50
  clear A50
  by_cases c6 : t122 = true
  ·subst c6
   have H1 : (if t120 > 65535 then (some (0, 0, false)) else (some (wrap64 (t120), t121, true))) = some (r1, r2, r3) := by rw [if_pos rfl] at H; exact H
   clear H
   have H := H1
   clear H1
   by_cases c7 : t120 > 65535
   ·rw [if_pos c7] at H
    have c7b0 : decide (65535 < t120) = true := decide_eq_true c7
    clear c7
    simp only [Option.some.injEq, Prod.mk.injEq] at H
    obtain ⟨rfl, rfl, rfl⟩ := H
    go_enter Tryd.func61, Tryd.ntmps61
    go_wp2_with (first | ((with_reducible refine gate_callee (f := 72) rfl ?_); refine goesL_ (some 12) rfl rfl Tryd.func72 (by kernel_rfl) rfl #[.string a0, .int .i64 a1] rfl (by (try simp only [List.map_toArray, List.map_cons, List.map_nil]); first | done | rfl | (simp only [List.length_drop, List.length_take]; rfl)) ?_; (with_reducible refine (codec_kind.calls k a0 a1 t119 _ ?side99  A3.out).mono ?_); (case side99 => first | exact HG.out | exact Glob.below HG.out (by repeat (first | (with_reducible first | exact HB.out | apply below_alloc | apply pw_below_drewN | apply below_drew1) | exact HB.out))); rintro e w' ⟨rfl, ⟨nd, rfl⟩⟩; refine ⟨_, rfl, ?_⟩) | ((with_reducible refine gate_callee (f := 64) rfl ?_); refine goesL_ (some 18) rfl rfl Tryd.func64 (by kernel_rfl) rfl #[.string a0, .int .i64 (wrap64 (a1 + 1)), .int .i64 3] rfl (by (try simp only [List.map_toArray, List.map_cons, List.map_nil]); first | done | rfl | (simp only [List.length_drop, List.length_take]; rfl)) ?_; (with_reducible refine (codec_raw.calls k a0 (wrap64 (a1 + 1)) 3 t120 t121 true _ ?side99  A5.out).mono ?_); (case side99 => first | exact HG.out | exact Glob.below HG.out (by repeat (first | (with_reducible first | exact HB.out | apply below_alloc | apply pw_below_drewN | apply below_drew1) | exact HB.out))); rintro e w8 ⟨rfl, hb⟩; refine ⟨_, rfl, ?_⟩; have n0_ := Aside0.mk (below_step (by repeat (first | (with_reducible first | exact HB.out | apply below_alloc | apply pw_below_drewN | apply below_drew1) | exact HB.out)) hb); clear HB; have HB := n0_; clear n0_; (try clear hb); (try clear hb2); (try clear hk); (try clear hi)))
    go_ret3
    exact ⟨by first | rfl | (simp [errW_none, errW_some] <;> rfl) | (simp [*, errW_none, errW_some] <;> rfl), by repeat (first | (with_reducible first | exact HB.out | apply below_alloc | apply pw_below_drewN | apply below_drew1) | exact HB.out)⟩
   ·rw [if_neg c7] at H
    have c7b0 : decide (65535 < t120) = false := decide_eq_false c7
    clear c7
    simp only [Option.some.injEq, Prod.mk.injEq] at H
    obtain ⟨rfl, rfl, rfl⟩ := H
    go_enter Tryd.func61, Tryd.ntmps61
    go_wp2_with (first | ((with_reducible refine gate_callee (f := 72) rfl ?_); refine goesL_ (some 12) rfl rfl Tryd.func72 (by kernel_rfl) rfl #[.string a0, .int .i64 a1] rfl (by (try simp only [List.map_toArray, List.map_cons, List.map_nil]); first | done | rfl | (simp only [List.length_drop, List.length_take]; rfl)) ?_; (with_reducible refine (codec_kind.calls k a0 a1 t119 _ ?side99  A3.out).mono ?_); (case side99 => first | exact HG.out | exact Glob.below HG.out (by repeat (first | (with_reducible first | exact HB.out | apply below_alloc | apply pw_below_drewN | apply below_drew1) | exact HB.out))); rintro e w' ⟨rfl, ⟨nd, rfl⟩⟩; refine ⟨_, rfl, ?_⟩) | ((with_reducible refine gate_callee (f := 64) rfl ?_); refine goesL_ (some 18) rfl rfl Tryd.func64 (by kernel_rfl) rfl #[.string a0, .int .i64 (wrap64 (a1 + 1)), .int .i64 3] rfl (by (try simp only [List.map_toArray, List.map_cons, List.map_nil]); first | done | rfl | (simp only [List.length_drop, List.length_take]; rfl)) ?_; (with_reducible refine (codec_raw.calls k a0 (wrap64 (a1 + 1)) 3 t120 t121 true _ ?side99  A5.out).mono ?_); (case side99 => first | exact HG.out | exact Glob.below HG.out (by repeat (first | (with_reducible first | exact HB.out | apply below_alloc | apply pw_below_drewN | apply below_drew1) | exact HB.out))); rintro e w9 ⟨rfl, hb⟩; refine ⟨_, rfl, ?_⟩; have n0_ := Aside0.mk (below_step (by repeat (first | (with_reducible first | exact HB.out | apply below_alloc | apply pw_below_drewN | apply below_drew1) | exact HB.out)) hb); clear HB; have HB := n0_; clear n0_; (try clear hb); (try clear hb2); (try clear hk); (try clear hi)))
    go_ret3
    exact ⟨by first | rfl | (simp [errW_none, errW_some] <;> rfl) | (simp [*, errW_none, errW_some] <;> rfl), by repeat (first | (with_reducible first | exact HB.out | apply below_alloc | apply pw_below_drewN | apply below_drew1) | exact HB.out)⟩
  ·replace c6 := Bool.eq_false_iff.mpr c6
   subst c6
   have H1 : (some (0, 0, false)) = some (r1, r2, r3) := by rw [if_neg (show ¬ (false = true) by decide)] at H; exact H
   clear H
   have H := H1
   clear H1
   simp only [Option.some.injEq, Prod.mk.injEq] at H
   obtain ⟨rfl, rfl, rfl⟩ := H
   go_enter Tryd.func61, Tryd.ntmps61
   go_wp2_with (first | ((with_reducible refine gate_callee (f := 72) rfl ?_); refine goesL_ (some 12) rfl rfl Tryd.func72 (by kernel_rfl) rfl #[.string a0, .int .i64 a1] rfl (by (try simp only [List.map_toArray, List.map_cons, List.map_nil]); first | done | rfl | (simp only [List.length_drop, List.length_take]; rfl)) ?_; (with_reducible refine (codec_kind.calls k a0 a1 t119 _ ?side99  A3.out).mono ?_); (case side99 => first | exact HG.out | exact Glob.below HG.out (by repeat (first | (with_reducible first | exact HB.out | apply below_alloc | apply pw_below_drewN | apply below_drew1) | exact HB.out))); rintro e w' ⟨rfl, ⟨nd, rfl⟩⟩; refine ⟨_, rfl, ?_⟩) | ((with_reducible refine gate_callee (f := 64) rfl ?_); refine goesL_ (some 18) rfl rfl Tryd.func64 (by kernel_rfl) rfl #[.string a0, .int .i64 (wrap64 (a1 + 1)), .int .i64 3] rfl (by (try simp only [List.map_toArray, List.map_cons, List.map_nil]); first | done | rfl | (simp only [List.length_drop, List.length_take]; rfl)) ?_; (with_reducible refine (codec_raw.calls k a0 (wrap64 (a1 + 1)) 3 t120 t121 false _ ?side99  A5.out).mono ?_); (case side99 => first | exact HG.out | exact Glob.below HG.out (by repeat (first | (with_reducible first | exact HB.out | apply below_alloc | apply pw_below_drewN | apply below_drew1) | exact HB.out))); rintro e w10 ⟨rfl, hb⟩; refine ⟨_, rfl, ?_⟩; have n0_ := Aside0.mk (below_step (by repeat (first | (with_reducible first | exact HB.out | apply below_alloc | apply pw_below_drewN | apply below_drew1) | exact HB.out)) hb); clear HB; have HB := n0_; clear n0_; (try clear hb); (try clear hb2); (try clear hk); (try clear hi)))
   go_ret3
   exact ⟨by first | rfl | (simp [errW_none, errW_some] <;> rfl) | (simp [*, errW_none, errW_some] <;> rfl), by repeat (first | (with_reducible first | exact HB.out | apply below_alloc | apply pw_below_drewN | apply below_drew1) | exact HB.out)⟩
 ·rw [if_neg c4] at H
  have c4b0 : (t119 == 6) = false := beq_eq_false_iff_ne.mpr c4
  have c4b1 : (t119 != 6) = true := bne_iff_ne.mpr c4
  simp only [Option.some.injEq, Prod.mk.injEq] at H
  obtain ⟨rfl, rfl, rfl⟩ := H
  go_enter Tryd.func61, Tryd.ntmps61
  go_wp2_with (first | ((with_reducible refine gate_callee (f := 72) rfl ?_); refine goesL_ (some 12) rfl rfl Tryd.func72 (by kernel_rfl) rfl #[.string a0, .int .i64 a1] rfl (by (try simp only [List.map_toArray, List.map_cons, List.map_nil]); first | done | rfl | (simp only [List.length_drop, List.length_take]; rfl)) ?_; (with_reducible refine (codec_kind.calls k a0 a1 t119 _ ?side99  A3.out).mono ?_); (case side99 => first | exact HG.out | exact Glob.below HG.out (by repeat (first | (with_reducible first | exact HB.out | apply below_alloc | apply pw_below_drewN | apply below_drew1) | exact HB.out))); rintro e w' ⟨rfl, ⟨nd, rfl⟩⟩; refine ⟨_, rfl, ?_⟩))
  go_ret3
  exact ⟨by first | rfl | (simp [errW_none, errW_some] <;> rfl) | (simp [*, errW_none, errW_some] <;> rfl), by repeat (first | (with_reducible first | exact HB.out | apply below_alloc | apply pw_below_drewN | apply below_drew1) | exact HB.out)⟩
end Go.Proofs.YtbccjcdmpiolpaaDoor.T
end
section
namespace Go.Proofs.YtbccjcdmpiolpaaDoor.T
open Go.RowKit Go.Proofs.YtbccjcdmpiolpaaDoorW.PrintWords Go.Proofs.YtbccjcdmpiolpaaDoorW.PrintLast Go.Proofs.YtbccjcdmpiolpaaDoorW.PrintMore
attribute [local go_sem] max2_int min2_int max_two min_two max_three min_three max_four min_four
set_option linter.unusedVariables false
set_option linter.unusedSimpArgs false
def codec_text.f (k : Nat) (a0 : ByteArray) (a1 : Int) : Option (ByteArray × Int × Bool) := (codec_kind.f k a0 a1).bind fun t126 => (if t126 = 5 then ((codec_raw.f k a0 (wrap64 (a1 + 1)) 3).bind fun bt127 => (if bt127.2.2 = true then (if bt127.1 > 65535 then (some ((⟨#[]⟩ : ByteArray), 0, false)) else (if (wrap64 (bt127.1)) > (wrap64 ((a0.size : Int) - bt127.2.1)) then (some ((⟨#[]⟩ : ByteArray), 0, false)) else (if 0 ≤ bt127.2.1 then (if bt127.2.1 ≤ (wrap64 (bt127.2.1 + (wrap64 (bt127.1)))) then (if (wrap64 (bt127.2.1 + (wrap64 (bt127.1)))) ≤ (a0.size : Int) then (some (a0.extract (bt127.2.1 : Int).toNat ((wrap64 (bt127.2.1 + (wrap64 (bt127.1)))) : Int).toNat, wrap64 (bt127.2.1 + (wrap64 (bt127.1))), true)) else (none)) else (none)) else (none)))) else (some ((⟨#[]⟩ : ByteArray), 0, false)))) else (some ((⟨#[]⟩ : ByteArray), 0, false)))
set_option maxHeartbeats 8000000 in
set_option maxRecDepth 100000 in
theorem codec_text.calls (k : Nat) (a0 : ByteArray) (a1 : Int) (r1 : ByteArray) (r2 : Int) (r3 : Bool) (w : World) (hG : Glob w) (h : codec_text.f k a0 a1 = some (r1, r2, r3)) :
  Calls Tryd.prog 58 #[.string a0, .int .i64 a1] w fun e w' => e = .returned (.tuple #[.string r1, .int .i64 r2, .bool r3]) ∧ Below w.heap.size w w' := by
 have HG := Aside0.mk hG
 clear hG
 have HB := Aside0.mk (Below.refl w.heap.size w)
 have H : ((codec_kind.f k a0 a1).bind fun t126 => (if t126 = 5 then ((codec_raw.f k a0 (wrap64 (a1 + 1)) 3).bind fun bt127 => (if bt127.2.2 = true then (if bt127.1 > 65535 then (some ((⟨#[]⟩ : ByteArray), 0, false)) else (if (wrap64 (bt127.1)) > (wrap64 ((a0.size : Int) - bt127.2.1)) then (some ((⟨#[]⟩ : ByteArray), 0, false)) else (if 0 ≤ bt127.2.1 then (if bt127.2.1 ≤ (wrap64 (bt127.2.1 + (wrap64 (bt127.1)))) then (if (wrap64 (bt127.2.1 + (wrap64 (bt127.1)))) ≤ (a0.size : Int) then (some (a0.extract (bt127.2.1 : Int).toNat ((wrap64 (bt127.2.1 + (wrap64 (bt127.1)))) : Int).toNat, wrap64 (bt127.2.1 + (wrap64 (bt127.1))), true)) else (none)) else (none)) else (none)))) else (some ((⟨#[]⟩ : ByteArray), 0, false)))) else (some ((⟨#[]⟩ : ByteArray), 0, false)))) = some (r1, r2, r3) := h
 clear h
 replace H := Option.bind_eq_some_iff.mp H
 obtain ⟨t126, A30, H⟩ := H
 replace H : (if t126 = 5 then ((codec_raw.f k a0 (wrap64 (a1 + 1)) 3).bind fun bt127 => (if bt127.2.2 = true then (if bt127.1 > 65535 then (some ((⟨#[]⟩ : ByteArray), 0, false)) else (if (wrap64 (bt127.1)) > (wrap64 ((a0.size : Int) - bt127.2.1)) then (some ((⟨#[]⟩ : ByteArray), 0, false)) else (if 0 ≤ bt127.2.1 then (if bt127.2.1 ≤ (wrap64 (bt127.2.1 + (wrap64 (bt127.1)))) then (if (wrap64 (bt127.2.1 + (wrap64 (bt127.1)))) ≤ (a0.size : Int) then (some (a0.extract (bt127.2.1 : Int).toNat ((wrap64 (bt127.2.1 + (wrap64 (bt127.1)))) : Int).toNat, wrap64 (bt127.2.1 + (wrap64 (bt127.1))), true)) else (none)) else (none)) else (none)))) else (some ((⟨#[]⟩ : ByteArray), 0, false)))) else (some ((⟨#[]⟩ : ByteArray), 0, false))) = some (r1, r2, r3) := H
 have A3 := Aside0.mk A30
 clear A30
 by_cases c4 : t126 = 5
 ·rw [if_pos c4] at H
  have c4b0 : (t126 == 5) = true := beq_iff_eq.mpr c4
  have c4b1 : (t126 != 5) = false := bne_eq_false_iff_eq.mpr c4
  clear c4
  replace H := Option.bind_eq_some_iff.mp H
  obtain ⟨⟨t127, t128, t129⟩, A50, H⟩ := H
  replace H : (if t129 = true then (if t127 > 65535 then (some ((⟨#[]⟩ : ByteArray), 0, false)) else (if (wrap64 (t127)) > (wrap64 ((a0.size : Int) - t128)) then (some ((⟨#[]⟩ : ByteArray), 0, false)) else (if 0 ≤ t128 then (if t128 ≤ (wrap64 (t128 + (wrap64 (t127)))) then (if (wrap64 (t128 + (wrap64 (t127)))) ≤ (a0.size : Int) then (some (a0.extract (t128 : Int).toNat ((wrap64 (t128 + (wrap64 (t127)))) : Int).toNat, wrap64 (t128 + (wrap64 (t127))), true)) else (none)) else (none)) else (none)))) else (some ((⟨#[]⟩ : ByteArray), 0, false))) = some (r1, r2, r3) := H
  have A5 := Aside0.mk A50
  clear A50
  by_cases c6 : t129 = true
  ·subst c6
   have H1 : (if t127 > 65535 then (some ((⟨#[]⟩ : ByteArray), 0, false)) else (if (wrap64 (t127)) > (wrap64 ((a0.size : Int) - t128)) then (some ((⟨#[]⟩ : ByteArray), 0, false)) else (if 0 ≤ t128 then (if t128 ≤ (wrap64 (t128 + (wrap64 (t127)))) then (if (wrap64 (t128 + (wrap64 (t127)))) ≤ (a0.size : Int) then (some (a0.extract (t128 : Int).toNat ((wrap64 (t128 + (wrap64 (t127)))) : Int).toNat, wrap64 (t128 + (wrap64 (t127))), true)) else (none)) else (none)) else (none)))) = some (r1, r2, r3) := by rw [if_pos rfl] at H; exact H
   clear H
   have H := H1
   clear H1
   by_cases c7 : t127 > 65535
   ·rw [if_pos c7] at H
    have c7b0 : decide (65535 < t127) = true := decide_eq_true c7
    clear c7
    simp only [Option.some.injEq, Prod.mk.injEq] at H
    obtain ⟨rfl, rfl, rfl⟩ := H
    go_enter Tryd.func58, Tryd.ntmps58
    go_wp2_with (first | ((with_reducible refine gate_callee (f := 72) rfl ?_); refine goesL_ (some 12) rfl rfl Tryd.func72 (by kernel_rfl) rfl #[.string a0, .int .i64 a1] rfl (by (try simp only [List.map_toArray, List.map_cons, List.map_nil]); first | done | rfl | (simp only [List.length_drop, List.length_take]; rfl)) ?_; (with_reducible refine (codec_kind.calls k a0 a1 t126 _ ?side99  A3.out).mono ?_); (case side99 => first | exact HG.out | exact Glob.below HG.out (by repeat (first | (with_reducible first | exact HB.out | apply below_alloc | apply pw_below_drewN | apply below_drew1) | exact HB.out))); rintro e w' ⟨rfl, ⟨nd, rfl⟩⟩; refine ⟨_, rfl, ?_⟩) | ((with_reducible refine gate_callee (f := 64) rfl ?_); refine goesL_ (some 18) rfl rfl Tryd.func64 (by kernel_rfl) rfl #[.string a0, .int .i64 (wrap64 (a1 + 1)), .int .i64 3] rfl (by (try simp only [List.map_toArray, List.map_cons, List.map_nil]); first | done | rfl | (simp only [List.length_drop, List.length_take]; rfl)) ?_; (with_reducible refine (codec_raw.calls k a0 (wrap64 (a1 + 1)) 3 t127 t128 true _ ?side99  A5.out).mono ?_); (case side99 => first | exact HG.out | exact Glob.below HG.out (by repeat (first | (with_reducible first | exact HB.out | apply below_alloc | apply pw_below_drewN | apply below_drew1) | exact HB.out))); rintro e w8 ⟨rfl, hb⟩; refine ⟨_, rfl, ?_⟩; have n0_ := Aside0.mk (below_step (by repeat (first | (with_reducible first | exact HB.out | apply below_alloc | apply pw_below_drewN | apply below_drew1) | exact HB.out)) hb); clear HB; have HB := n0_; clear n0_; (try clear hb); (try clear hb2); (try clear hk); (try clear hi)))
    go_ret3
    exact ⟨by first | rfl | (simp [errW_none, errW_some] <;> rfl) | (simp [*, errW_none, errW_some] <;> rfl), by repeat (first | (with_reducible first | exact HB.out | apply below_alloc | apply pw_below_drewN | apply below_drew1) | exact HB.out)⟩
   ·rw [if_neg c7] at H
    have c7b0 : decide (65535 < t127) = false := decide_eq_false c7
    clear c7
    by_cases c9 : (wrap64 (t127)) > (wrap64 ((a0.size : Int) - t128))
    ·rw [if_pos c9] at H
     have c9b0 : decide ((wrap64 ((a0.size : Int) - t128)) < (wrap64 (t127))) = true := decide_eq_true c9
     clear c9
     simp only [Option.some.injEq, Prod.mk.injEq] at H
     obtain ⟨rfl, rfl, rfl⟩ := H
     go_enter Tryd.func58, Tryd.ntmps58
     go_wp2_with (first | ((with_reducible refine gate_callee (f := 72) rfl ?_); refine goesL_ (some 12) rfl rfl Tryd.func72 (by kernel_rfl) rfl #[.string a0, .int .i64 a1] rfl (by (try simp only [List.map_toArray, List.map_cons, List.map_nil]); first | done | rfl | (simp only [List.length_drop, List.length_take]; rfl)) ?_; (with_reducible refine (codec_kind.calls k a0 a1 t126 _ ?side99  A3.out).mono ?_); (case side99 => first | exact HG.out | exact Glob.below HG.out (by repeat (first | (with_reducible first | exact HB.out | apply below_alloc | apply pw_below_drewN | apply below_drew1) | exact HB.out))); rintro e w' ⟨rfl, ⟨nd, rfl⟩⟩; refine ⟨_, rfl, ?_⟩) | ((with_reducible refine gate_callee (f := 64) rfl ?_); refine goesL_ (some 18) rfl rfl Tryd.func64 (by kernel_rfl) rfl #[.string a0, .int .i64 (wrap64 (a1 + 1)), .int .i64 3] rfl (by (try simp only [List.map_toArray, List.map_cons, List.map_nil]); first | done | rfl | (simp only [List.length_drop, List.length_take]; rfl)) ?_; (with_reducible refine (codec_raw.calls k a0 (wrap64 (a1 + 1)) 3 t127 t128 true _ ?side99  A5.out).mono ?_); (case side99 => first | exact HG.out | exact Glob.below HG.out (by repeat (first | (with_reducible first | exact HB.out | apply below_alloc | apply pw_below_drewN | apply below_drew1) | exact HB.out))); rintro e w10 ⟨rfl, hb⟩; refine ⟨_, rfl, ?_⟩; have n0_ := Aside0.mk (below_step (by repeat (first | (with_reducible first | exact HB.out | apply below_alloc | apply pw_below_drewN | apply below_drew1) | exact HB.out)) hb); clear HB; have HB := n0_; clear n0_; (try clear hb); (try clear hb2); (try clear hk); (try clear hi)))
     go_ret3
     exact ⟨by first | rfl | (simp [errW_none, errW_some] <;> rfl) | (simp [*, errW_none, errW_some] <;> rfl), by repeat (first | (with_reducible first | exact HB.out | apply below_alloc | apply pw_below_drewN | apply below_drew1) | exact HB.out)⟩
    ·rw [if_neg c9] at H
     have c9b0 : decide ((wrap64 ((a0.size : Int) - t128)) < (wrap64 (t127))) = false := decide_eq_false c9
     clear c9
     by_cases c11 : 0 ≤ t128
     ·rw [if_pos c11] at H
      have c11b0 := eq_true c11
      have c11b1 : decide (0 ≤ t128) = true := decide_eq_true c11
      clear c11
      by_cases c12 : t128 ≤ (wrap64 (t128 + (wrap64 (t127))))
      ·rw [if_pos c12] at H
       have c12b0 := eq_true c12
       have c12b1 : decide (t128 ≤ (wrap64 (t128 + (wrap64 (t127))))) = true := decide_eq_true c12
       by_cases c13 : (wrap64 (t128 + (wrap64 (t127)))) ≤ (a0.size : Int)
       ·rw [if_pos c13] at H
        have c13b0 := eq_true c13
        have c13b1 : decide ((wrap64 (t128 + (wrap64 (t127)))) ≤ (a0.size : Int)) = true := decide_eq_true c13
        simp only [Option.some.injEq, Prod.mk.injEq] at H
        obtain ⟨rfl, rfl, rfl⟩ := H
        go_enter Tryd.func58, Tryd.ntmps58
        go_wp2_with (first | ((with_reducible refine gate_callee (f := 72) rfl ?_); refine goesL_ (some 12) rfl rfl Tryd.func72 (by kernel_rfl) rfl #[.string a0, .int .i64 a1] rfl (by (try simp only [List.map_toArray, List.map_cons, List.map_nil]); first | done | rfl | (simp only [List.length_drop, List.length_take]; rfl)) ?_; (with_reducible refine (codec_kind.calls k a0 a1 t126 _ ?side99  A3.out).mono ?_); (case side99 => first | exact HG.out | exact Glob.below HG.out (by repeat (first | (with_reducible first | exact HB.out | apply below_alloc | apply pw_below_drewN | apply below_drew1) | exact HB.out))); rintro e w' ⟨rfl, ⟨nd, rfl⟩⟩; refine ⟨_, rfl, ?_⟩) | ((with_reducible refine gate_callee (f := 64) rfl ?_); refine goesL_ (some 18) rfl rfl Tryd.func64 (by kernel_rfl) rfl #[.string a0, .int .i64 (wrap64 (a1 + 1)), .int .i64 3] rfl (by (try simp only [List.map_toArray, List.map_cons, List.map_nil]); first | done | rfl | (simp only [List.length_drop, List.length_take]; rfl)) ?_; (with_reducible refine (codec_raw.calls k a0 (wrap64 (a1 + 1)) 3 t127 t128 true _ ?side99  A5.out).mono ?_); (case side99 => first | exact HG.out | exact Glob.below HG.out (by repeat (first | (with_reducible first | exact HB.out | apply below_alloc | apply pw_below_drewN | apply below_drew1) | exact HB.out))); rintro e w14 ⟨rfl, hb⟩; refine ⟨_, rfl, ?_⟩; have n0_ := Aside0.mk (below_step (by repeat (first | (with_reducible first | exact HB.out | apply below_alloc | apply pw_below_drewN | apply below_drew1) | exact HB.out)) hb); clear HB; have HB := n0_; clear n0_; (try clear hb); (try clear hb2); (try clear hk); (try clear hi)))
        go_ret3
        exact ⟨by first | rfl | (simp [errW_none, errW_some] <;> rfl) | (simp [*, errW_none, errW_some] <;> rfl), by repeat (first | (with_reducible first | exact HB.out | apply below_alloc | apply pw_below_drewN | apply below_drew1) | exact HB.out)⟩
       ·rw [if_neg c13] at H
        exact absurd H (by simp)
      ·rw [if_neg c12] at H
       exact absurd H (by simp)
     ·rw [if_neg c11] at H
      exact absurd H (by simp)
  ·replace c6 := Bool.eq_false_iff.mpr c6
   subst c6
   have H1 : (some ((⟨#[]⟩ : ByteArray), 0, false)) = some (r1, r2, r3) := by rw [if_neg (show ¬ (false = true) by decide)] at H; exact H
   clear H
   have H := H1
   clear H1
   simp only [Option.some.injEq, Prod.mk.injEq] at H
   obtain ⟨rfl, rfl, rfl⟩ := H
   go_enter Tryd.func58, Tryd.ntmps58
   go_wp2_with (first | ((with_reducible refine gate_callee (f := 72) rfl ?_); refine goesL_ (some 12) rfl rfl Tryd.func72 (by kernel_rfl) rfl #[.string a0, .int .i64 a1] rfl (by (try simp only [List.map_toArray, List.map_cons, List.map_nil]); first | done | rfl | (simp only [List.length_drop, List.length_take]; rfl)) ?_; (with_reducible refine (codec_kind.calls k a0 a1 t126 _ ?side99  A3.out).mono ?_); (case side99 => first | exact HG.out | exact Glob.below HG.out (by repeat (first | (with_reducible first | exact HB.out | apply below_alloc | apply pw_below_drewN | apply below_drew1) | exact HB.out))); rintro e w' ⟨rfl, ⟨nd, rfl⟩⟩; refine ⟨_, rfl, ?_⟩) | ((with_reducible refine gate_callee (f := 64) rfl ?_); refine goesL_ (some 18) rfl rfl Tryd.func64 (by kernel_rfl) rfl #[.string a0, .int .i64 (wrap64 (a1 + 1)), .int .i64 3] rfl (by (try simp only [List.map_toArray, List.map_cons, List.map_nil]); first | done | rfl | (simp only [List.length_drop, List.length_take]; rfl)) ?_; (with_reducible refine (codec_raw.calls k a0 (wrap64 (a1 + 1)) 3 t127 t128 false _ ?side99  A5.out).mono ?_); (case side99 => first | exact HG.out | exact Glob.below HG.out (by repeat (first | (with_reducible first | exact HB.out | apply below_alloc | apply pw_below_drewN | apply below_drew1) | exact HB.out))); rintro e w15 ⟨rfl, hb⟩; refine ⟨_, rfl, ?_⟩; have n0_ := Aside0.mk (below_step (by repeat (first | (with_reducible first | exact HB.out | apply below_alloc | apply pw_below_drewN | apply below_drew1) | exact HB.out)) hb); clear HB; have HB := n0_; clear n0_; (try clear hb); (try clear hb2); (try clear hk); (try clear hi)))
   go_ret3
   exact ⟨by first | rfl | (simp [errW_none, errW_some] <;> rfl) | (simp [*, errW_none, errW_some] <;> rfl), by repeat (first | (with_reducible first | exact HB.out | apply below_alloc | apply pw_below_drewN | apply below_drew1) | exact HB.out)⟩
 ·rw [if_neg c4] at H
  have c4b0 : (t126 == 5) = false := beq_eq_false_iff_ne.mpr c4
  have c4b1 : (t126 != 5) = true := bne_iff_ne.mpr c4
  simp only [Option.some.injEq, Prod.mk.injEq] at H
  obtain ⟨rfl, rfl, rfl⟩ := H
  go_enter Tryd.func58, Tryd.ntmps58
  go_wp2_with (first | ((with_reducible refine gate_callee (f := 72) rfl ?_); refine goesL_ (some 12) rfl rfl Tryd.func72 (by kernel_rfl) rfl #[.string a0, .int .i64 a1] rfl (by (try simp only [List.map_toArray, List.map_cons, List.map_nil]); first | done | rfl | (simp only [List.length_drop, List.length_take]; rfl)) ?_; (with_reducible refine (codec_kind.calls k a0 a1 t126 _ ?side99  A3.out).mono ?_); (case side99 => first | exact HG.out | exact Glob.below HG.out (by repeat (first | (with_reducible first | exact HB.out | apply below_alloc | apply pw_below_drewN | apply below_drew1) | exact HB.out))); rintro e w' ⟨rfl, ⟨nd, rfl⟩⟩; refine ⟨_, rfl, ?_⟩))
  go_ret3
  exact ⟨by first | rfl | (simp [errW_none, errW_some] <;> rfl) | (simp [*, errW_none, errW_some] <;> rfl), by repeat (first | (with_reducible first | exact HB.out | apply below_alloc | apply pw_below_drewN | apply below_drew1) | exact HB.out)⟩
end Go.Proofs.YtbccjcdmpiolpaaDoor.T
end
section
namespace Go.Proofs.YtbccjcdmpiolpaaDoor.T
open Go.RowKit Go.Proofs.YtbccjcdmpiolpaaDoorW.PrintWords Go.Proofs.YtbccjcdmpiolpaaDoorW.PrintLast Go.Proofs.YtbccjcdmpiolpaaDoorW.PrintMore
attribute [local go_sem] max2_int min2_int max_two min_two max_three min_three max_four min_four
set_option linter.unusedVariables false
set_option linter.unusedSimpArgs false
end Go.Proofs.YtbccjcdmpiolpaaDoor.T
end
section
namespace Go.Proofs.YtbccjcdmpiolpaaDoor.T
open Go.RowKit Go.Proofs.YtbccjcdmpiolpaaDoorW.PrintWords Go.Proofs.YtbccjcdmpiolpaaDoorW.PrintLast Go.Proofs.YtbccjcdmpiolpaaDoorW.PrintMore
attribute [local go_sem] max2_int min2_int max_two min_two max_three min_three max_four min_four
set_option linter.unusedVariables false
set_option linter.unusedSimpArgs false
end Go.Proofs.YtbccjcdmpiolpaaDoor.T
end
section
namespace Go.Proofs.YtbccjcdmpiolpaaDoor.Pure
open Go.RowKit Go.Proofs.YtbccjcdmpiolpaaDoor.T Go.Proofs.YtbccjcdmpiolpaaDoorW.PrintWords Go.Proofs.YtbccjcdmpiolpaaDoorW.PrintLast Go.Proofs.YtbccjcdmpiolpaaDoorW.PrintMore
set_option linter.unusedVariables false
set_option linter.unusedSimpArgs false
def beL (V : Int) : Nat → List Int
 | 0 => []
 | n + 1 => beL (V / 256) n ++ [V % 256]
theorem beL_length (V : Int) (n : Nat) : (beL V n).length = n := by
 induction n generalizing V with
 | zero => rfl
 | succ n ih => simp [beL, ih]
theorem strOfNums_size (l : List Int) : (strOfNums l).size = l.length := by
 show ((l.map fun n => UInt8.ofNat n.toNat).toArray).size = _
 simp
theorem ext_size (s : ByteArray) (i j : Nat) (h : i ≤ j) (hj : j ≤ s.size) : (s.extract i j).size = j - i := by
 rw [ByteArray.size_extract]; omega
theorem cnt_of {s : ByteArray} {p : Int} (h : kindS s p = 3 ∨ kindS s p = 4) : 1 ≤ cnt s p ∧ cnt s p ≤ 8 := by
 obtain ⟨a, b, c⟩ := kindS_in (s := s) (p := p) (by omega)
 rw [c] at h
 unfold cnt
 rcases h with h | h
 ·have := kd3.1 h; omega
 ·have := kd4.1 h; omega
def uS (s : ByteArray) (p : Int) : Option (Int × Int) := if kindS s p = 3 ∧ p + 1 + (cnt s p : Int) ≤ (s.size : Int) ∧ nb (val s p) = (cnt s p : Int) then some (val s p, p + 1 + (cnt s p : Int)) else none
def sS (s : ByteArray) (p : Int) : Option (Int × Int) := if kindS s p = 4 ∧ p + 1 + (cnt s p : Int) ≤ (s.size : Int) ∧ ss (sgn (cnt s p) (val s p)) = (cnt s p : Int) then some (sgn (cnt s p) (val s p), p + 1 + (cnt s p : Int)) else none
def opt3 (o : Option (Int × Int)) : Int × Int × Bool := match o with | some (v, e) => (v, e, true) | none => (0, 0, false)
end Go.Proofs.YtbccjcdmpiolpaaDoor.Pure
end
section
namespace Go.Proofs.YtbccjcdmpiolpaaDoor.Pure
open Go.RowKit Go.Proofs.YtbccjcdmpiolpaaDoor.T Go.Proofs.YtbccjcdmpiolpaaDoorW.PrintWords Go.Proofs.YtbccjcdmpiolpaaDoorW.PrintLast Go.Proofs.YtbccjcdmpiolpaaDoorW.PrintMore
set_option linter.unusedVariables false
def beH (V : Int) : Nat → List Int
 | 0 => []
 | n + 1 => (V / 256 ^ n % 256) :: beH V n
theorem beH_length (V : Int) (n : Nat) : (beH V n).length = n := by
 induction n with
 | zero => rfl
 | succ n ih => simp [beH, ih]
theorem beH_snoc (V : Int) (n : Nat) : beH V (n + 1) = beH (V / 256) n ++ [V % 256] := by
 induction n with
 | zero => simp [beH]
 | succ n ih =>
  rw [beH, ih, beH, List.cons_append]
  congr 2
  rw [Int.pow_succ, Int.mul_comm, Int.ediv_ediv_of_nonneg (by decide)]
theorem beL_eq (n : Nat) : ∀ V : Int, beL V n = beH V n := by
 induction n with
 | zero => intro V; rfl
 | succ n ih => intro V; rw [beL, ih, beH_snoc]
theorem number_loop (x : Int) : ∀ (d k : Nat) (acc : List Int), acc.length + d ≤ 100 → d ≤ 8 → codec_number.l0 (k + d + 1) x acc ((d : Int) - 1) = some (acc ++ beH x d) := by
 intro d
 induction d with
 | zero =>
  intro k acc h1 h2
  rw [show k + 0 + 1 = k + 1 by omega, codec_number.l0, if_neg (by omega)]
  simp [beH]
 | succ d ih =>
  intro k acc h1 h2
  have e : shr .u64 x (wrap64 (8 * (d : Int))) = x / 256 ^ d := by
   unfold shr
   rw [w64 (by omega) (by omega), show (8 * (d : Int)).toNat = 8 * d by omega, Nat.min_eq_left (by show 8 * d ≤ 64; omega), Int.pow_mul]
   rfl
  rw [show k + (d + 1) + 1 = (k + d + 1) + 1 by omega, show ((d + 1 : Nat) : Int) - 1 = (d : Int) by omega, codec_number.l0, if_pos (by omega), if_pos (by rw [w64 (by omega) (by omega)]; omega), if_pos (by omega), e, w64 (by omega) (by omega), ih k _ (by simp; omega) (by omega)]
  simp [beH]
theorem number_eq (k : Nat) (tag x : Int) (n : Nat) (h1 : 1 ≤ n) (hn : n ≤ 8) (ht : 0 ≤ tag ∧ tag ≤ 64) : codec_number.f (k + 10) tag x (n : Int) = some ((tag + (n : Int)) :: beH x n) := by
 unfold codec_number.f
 have := number_loop x n (k + 10 - n - 1) [tag + (n : Int)] (by simp; omega) hn
 rw [show k + 10 - n - 1 + n + 1 = k + 10 by omega] at this
 rw [w64 (by omega) (by omega), show (tag + (n : Int) % 256) % 256 = tag + (n : Int) by omega, this]
 rfl
def uB (n : Int) : List Int := (16 + nb n) :: beL n (nb n).toNat
def sB (n : Int) : List Int := (32 + ss n) :: beL n (ss n).toNat
theorem beH_wrap (V : Int) (n : Nat) (hn : n ≤ 8) : beH (IntKind.u64.wrap V) n = beH V n := by
 have key : ∀ i : Nat, i ≤ 7 → IntKind.u64.wrap V / 256 ^ i % 256 = V / 256 ^ i % 256 := fun i hi => by
  rw [u64w]
  obtain rfl | rfl | rfl | rfl | rfl | rfl | rfl | rfl : i = 0 ∨ i = 1 ∨ i = 2 ∨ i = 3 ∨ i = 4 ∨ i = 5 ∨ i = 6 ∨ i = 7 := by omega
  all_goals simp only [Int.reducePow]
  all_goals omega
 induction n with
 | zero => rfl
 | succ n ih => rw [beH, beH, ih (by omega), key n (by omega)]
theorem numUn (k : Nat) (n : Int) (h0 : 0 ≤ n) (h1 : n < 18446744073709551616) : codec_number.f (k + 10) 16 n (nb n) = some (uB n) := by
 have hr := nb_range n
 obtain ⟨m, hm⟩ : ∃ m : Nat, nb n = (m : Int) := ⟨(nb n).toNat, by omega⟩
 unfold uB
 rw [hm, number_eq k 16 n m (by omega) (by omega) (by omega), show ((m : Int)).toNat = m from rfl, beL_eq]
theorem numSg (k : Nat) (n : Int) (h0 : -9223372036854775808 ≤ n) (h1 : n ≤ 9223372036854775807) : codec_number.f (k + 10) 32 (IntKind.u64.wrap n) (ss n) = some (sB n) := by
 have hr := ss_range n h0 h1
 obtain ⟨m, hm⟩ : ∃ m : Nat, ss n = (m : Int) := ⟨(ss n).toNat, by omega⟩
 unfold sB
 rw [hm, number_eq k 32 _ m (by omega) (by omega) (by omega), show ((m : Int)).toNat = m from rfl, beL_eq, beH_wrap n m (by omega)]
theorem uB_len (n : Int) : (uB n).length ≤ 9 := by
 have := nb_range n
 simp [uB, beL_length]
 omega
theorem sB_len (n : Int) (h0 : -9223372036854775808 ≤ n) (h1 : n ≤ 9223372036854775807) : (sB n).length ≤ 9 := by
 have := ss_range n h0 h1
 simp [sB, beL_length]
 omega
theorem strOfNums_app (a b : List Int) : strOfNums (a ++ b) = strOfNums a ++ strOfNums b := by
 apply ByteArray.ext
 rw [ByteArray.data_append]
 simp [strOfNums]
theorem strOfNums_bytes (s : ByteArray) : strOfNums (bytesOf s) = s := by
 apply ByteArray.ext
 apply Array.toList_inj.mp
 show ((bytesOf s).map fun n => UInt8.ofNat n.toNat) = s.data.toList
 unfold bytesOf
 rw [List.map_map]
 conv => rhs; rw [← List.map_id s.data.toList]
 refine List.map_congr_left (fun b _ => ?_)
 show UInt8.ofNat ((b.toNat : Int)).toNat = b
 simp
end Go.Proofs.YtbccjcdmpiolpaaDoor.Pure
end
section
namespace Go.Proofs.YtbccjcdmpiolpaaDoor.T
open Go.RowKit Go.Proofs.YtbccjcdmpiolpaaDoorW.PrintWords Go.Proofs.YtbccjcdmpiolpaaDoorW.PrintLast Go.Proofs.YtbccjcdmpiolpaaDoorW.PrintMore
set_option linter.unusedVariables false
set_option linter.unusedSimpArgs false
def dig1 (h b : Int) : Int := IntKind.u64.wrap (Go.bits .xor .u64 h (IntKind.u64.wrap b) * 1099511628211)
def dig (s : ByteArray) : Nat → Int
 | 0 => 14695981039346656037
 | n + 1 => dig1 (dig s n) (bt s n)
def hexAt (h : Int) (i : Nat) : Int := bt (⟨#[48, 49, 50, 51, 52, 53, 54, 55, 56, 57, 97, 98, 99, 100, 101, 102]⟩ : ByteArray) (Go.bits .and .u64 (h / 2 ^ (60 - 4 * i)) 15)
theorem and15u (x : Int) : 0 ≤ Go.bits .and .u64 x 15 ∧ Go.bits .and .u64 x 15 < 16 := by
 show 0 ≤ IntKind.u64.wrap (((BitVec.ofInt 64 x) &&& (BitVec.ofInt 64 15)).toNat : Int) ∧ IntKind.u64.wrap (((BitVec.ofInt 64 x) &&& (BitVec.ofInt 64 15)).toNat : Int) < 16
 have h : ((BitVec.ofInt 64 x) &&& (BitVec.ofInt 64 15)).toNat ≤ 15 := by
  rw [BitVec.toNat_and]
  exact Nat.and_le_right
 show 0 ≤ ((((BitVec.ofInt 64 x) &&& (BitVec.ofInt 64 15)).toNat : Int) % 18446744073709551616) ∧ ((((BitVec.ofInt 64 x) &&& (BitVec.ofInt 64 15)).toNat : Int) % 18446744073709551616) < 16
 omega
def digits (h : Int) : List Int := (List.range 16).map (hexAt h)
def codec_Digest.f (a0 : ByteArray) : Option (ByteArray) := if a0.size ≤ 9223372036854775807 then some (strOfNums (digits (dig a0 a0.size))) else none
set_option maxHeartbeats 2000000 in
set_option maxRecDepth 100000 in
theorem codec_Digest.calls (a0 : ByteArray) (r : ByteArray) (w : World) (hG : Glob w) (h : codec_Digest.f a0 = some r) :
  Calls Tryd.prog 35 #[.string a0] w fun e w' => e = .returned (.string r) ∧ Below w.heap.size w w' := by
 unfold codec_Digest.f at h
 by_cases hs : a0.size ≤ 9223372036854775807
 ·rw [if_pos hs] at h
  obtain rfl := Option.some.inj h
  clear h hG
  go_enter Tryd.func35, Tryd.ntmps35
  go_wp2_with fail
  go_loop [3, 4, 9] (fun n _ t => ∃ k : Nat, k ≤ a0.size ∧ t = .int .i64 k ∧ n = .int .u64 (dig a0 k)) (fun _ _ t => a0.size - (intOf t).toNat)
  case atStart => exact ⟨0, Nat.zero_le _, rfl, rfl⟩
  case round =>
   obtain ⟨k, hk, rfl, rfl⟩ := hrel
   by_cases hlt : k < a0.size
   ·have hb : (a0[k].toNat : Int) = bt a0 k := bt_at a0 k hlt
    have HD : Hid (dig a0 (k + 1) = dig1 (dig a0 k) (bt a0 k)) := rfl
    generalize dig a0 k = dk at *
    go_wp2
    exact ⟨⟨k + 1, by omega, by go_num, by rw [HD.out]; rfl⟩, by simp [RowKit.intOf]; omega⟩
   ·have hke : k = a0.size := by omega
    subst hke
    go_wp2_with fail
    obtain ⟨d, hd⟩ : ∃ d, d = dig a0 a0.size := ⟨_, rfl⟩
    rw [← hd]
    have HD : Hid (d = dig a0 a0.size) := hd
    clear hd
    have hrow0 : (w.alloc (.cells #[.int .u8 0, .int .u8 0, .int .u8 0, .int .u8 0, .int .u8 0, .int .u8 0, .int .u8 0, .int .u8 0, .int .u8 0, .int .u8 0, .int .u8 0, .int .u8 0, .int .u8 0, .int .u8 0, .int .u8 0, .int .u8 0] 105)).rowIs w.heap.size 105 16 (fun j => if j < 0 then .int .u8 (hexAt d j) else .int .u8 0) := by
     refine World.rowIs_alloc w _ 105 _ (fun i hi => ?_)
     rw [if_neg (Nat.not_lt_zero i)]
     have h16 : i < 16 := hi
     obtain rfl | rfl | rfl | rfl | rfl | rfl | rfl | rfl | rfl | rfl | rfl | rfl | rfl | rfl | rfl | rfl : i = 0 ∨ i = 1 ∨ i = 2 ∨ i = 3 ∨ i = 4 ∨ i = 5 ∨ i = 6 ∨ i = 7 ∨ i = 8 ∨ i = 9 ∨ i = 10 ∨ i = 11 ∨ i = 12 ∨ i = 13 ∨ i = 14 ∨ i = 15 := by omega
     all_goals rfl
    go_loopw [6, 20] (fun _ v wr => ∃ k : Nat, k ≤ 16 ∧ v = .int .i64 k ∧ Hid (wr.rowIs w.heap.size 105 16 (fun j => if j < k then .int .u8 (hexAt d j) else .int .u8 0)) ∧ Hid (Below w.heap.size w wr)) (fun _ v _ => 16 - (intOf v).toNat)
    case atStart => exact ⟨0, by omega, rfl, hrow0, below_alloc (Below.refl _ _) _⟩
    case round =>
     obtain ⟨k, hk, rfl, hrw, hbel⟩ := hrel
     by_cases hlt : k < 16
     ·have hf1 : wr.frozen? ⟨w.heap.size, k, none⟩ = false := hrw.out.frozen _
      have hc1 : wr.cell? ⟨w.heap.size, k, none⟩ = some (.int .u8 0) := by
       refine (hrw.out.cell hlt).trans ?_
       rw [if_neg (by omega)]
      have hq := and15u (d / 2 ^ (60 - 4 * k))
      have hx : hexAt d k = bt (⟨#[48, 49, 50, 51, 52, 53, 54, 55, 56, 57, 97, 98, 99, 100, 101, 102]⟩ : ByteArray) (Go.bits .and .u64 (d / 2 ^ (60 - 4 * k)) 15) := rfl
      have hz : (Go.bits .and .u64 (d / 2 ^ (60 - 4 * k)) 15).toNat < (⟨#[48, 49, 50, 51, 52, 53, 54, 55, 56, 57, 97, 98, 99, 100, 101, 102]⟩ : ByteArray).size := by
       show (Go.bits .and .u64 (d / 2 ^ (60 - 4 * k)) 15).toNat < 16
       omega
      have hv := bt_at (⟨#[48, 49, 50, 51, 52, 53, 54, 55, 56, 57, 97, 98, 99, 100, 101, 102]⟩ : ByteArray) _ hz
      rw [← hx] at hv
      clear hx
      go_wp2
      refine ⟨⟨k + 1, by omega, by go_num, (hrw.out.set k _).congr (fun j _ => ?_), hbel.out.setCell (Nat.le_refl _) _⟩, by simp [RowKit.intOf]; omega⟩
      by_cases e : j = k
      ·subst e
       rw [if_pos rfl, if_pos (by omega), ← hv]
      ·rw [if_neg e]
       by_cases e2 : j < k
       ·rw [if_pos e2, if_pos (by omega)]
       ·rw [if_neg e2, if_neg (by omega)]
     ·have hke : k = 16 := by omega
      subst hke
      have hreads : ReadsInt wr .u8 (some ⟨w.heap.size, 0, none⟩) 16 (digits d) := by
       refine ⟨by simp [digits], by decide, fun _ => ⟨_, rfl, fun j hj => ?_⟩⟩
       have e := hrw.out.cell hj
       simp only [if_pos hj] at e
       rw [show (digits d).getD j 0 = hexAt d j by simp [digits, List.getD_eq_getElem?_getD, List.getElem?_map, List.getElem?_range hj]]
       rw [← e]
       congr 1
       simp [Addr.add]
       exact fun h => h.symm
      have hconv : (convert 88 9 (.slice (some ⟨w.heap.size, 0, none⟩) 16 16)).run Tryd.prog wr = .ok (.string (strOfNums (digits d))) wr :=
       string_of_reads Tryd.underlying88 Tryd.underlying5 Tryd.underlying9 hreads
      go_wp2
      go_ret
      rw [← HD.out]
      exact ⟨rfl, hbel.out⟩
 ·rw [if_neg hs] at h
  cases h
end Go.Proofs.YtbccjcdmpiolpaaDoor.T
end
section
namespace Go.Proofs.YtbccjcdmpiolpaaDoor.T
open Go.RowKit Go.Proofs.YtbccjcdmpiolpaaDoor.Pure Go.Proofs.YtbccjcdmpiolpaaDoorW.PrintWords Go.Proofs.YtbccjcdmpiolpaaDoorW.PrintLast Go.Proofs.YtbccjcdmpiolpaaDoorW.PrintMore
set_option linter.unusedVariables false
set_option linter.unusedSimpArgs false
attribute [local go_sem] max2_int min2_int max_two min_two
theorem intOf_int (k : IntKind) (x : Int) : intOf (.int k x) = x := rfl
abbrev uw (n : Int) : Int := IntKind.u64.wrap n
theorem uw_range (n : Int) : 0 ≤ uw n ∧ uw n < 18446744073709551616 := by
 show 0 ≤ n % 18446744073709551616 ∧ n % 18446744073709551616 < 18446744073709551616
 omega
theorem wrU (B g : Nat) (l : List Int) (n : Int) (w : World) (hG : Aside0 (Glob w)) (hB : B ≤ w.heap.size) (h : WrAt B g l w) (hl : l.length ≤ 100000000) (hn : 0 ≤ n ∧ n < 18446744073709551616) :
  Calls Tryd.prog 46 #[.pointer (some ⟨g, 0, none⟩), .int .u64 n] w fun e w' => WrPost B g (l ++ uB n) w (.tuple #[]) e w' :=
 wr_unsigned 1 10 B g l n _ _ w hG hB h (by have := uB_len n; unfold wrMax; omega) (Aside0.mk (width_eq 0 n (by omega) (by omega))) (Aside0.mk (numUn 0 n (by omega) (by omega)))
theorem wrS (B g : Nat) (l : List Int) (n : Int) (w : World) (hG : Aside0 (Glob w)) (hB : B ≤ w.heap.size) (h : WrAt B g l w) (hl : l.length ≤ 100000000) (hn : -9223372036854775808 ≤ n ∧ n ≤ 9223372036854775807) :
  Calls Tryd.prog 47 #[.pointer (some ⟨g, 0, none⟩), .int .i64 n] w fun e w' => WrPost B g (l ++ sB n) w (.tuple #[]) e w' :=
 wr_signed 1 10 B g l n _ _ w hG hB h (by have := sB_len n (by omega) (by omega); unfold wrMax; omega) (Aside0.mk (spread_eq 0 n (by omega) (by omega))) (Aside0.mk (numSg 0 n (by omega) (by omega)))
theorem wrL (B g : Nat) (l : List Int) (n : Int) (w : World) (hG : Aside0 (Glob w)) (h0 : 0 < B) (hB : B ≤ w.heap.size) (h : WrAt B g l w) (hl : l.length ≤ 100000000) (hn : 0 ≤ n ∧ n ≤ 65535) :
  Calls Tryd.prog 45 #[.pointer (some ⟨g, 0, none⟩), .int .i64 n] w fun e w' => WrPost B g (l ++ ([64] ++ uB n)) w (.int .i64 0) e w' := by
 rw [← List.append_assoc]
 exact wr_list 1 10 B g l n _ _ w hG h0 hB h (by have := uB_len n; unfold wrMax; omega) hn (Aside0.mk (width_eq 0 n (by omega) (by omega))) (Aside0.mk (numUn 0 n (by omega) (by omega)))
theorem wrT (B g : Nat) (l : List Int) (s : ByteArray) (w : World) (hG : Aside0 (Glob w)) (h0 : 0 < B) (hB : B ≤ w.heap.size) (h : WrAt B g l w) (hl : l.length ≤ 100000000) (hn : s.size ≤ 65535) :
  Calls Tryd.prog 48 #[.pointer (some ⟨g, 0, none⟩), .string s] w fun e w' => WrPost B g (l ++ ([48] ++ uB (s.size : Int) ++ bytesOf s)) w (.int .i64 0) e w' := by
 rw [show l ++ ([48] ++ uB (s.size : Int) ++ bytesOf s) = l ++ [48] ++ uB (s.size : Int) ++ bytesOf s by simp only [List.append_assoc]]
 exact wr_text 1 10 B g l s _ _ w hG h0 hB h (by have := uB_len (s.size : Int); unfold wrMax; omega) hn (Aside0.mk (width_eq 0 _ (by omega) (by omega))) (Aside0.mk (numUn 0 _ (by omega) (by omega)))
def recB (x : S44) : List Int := ([64] ++ uB 5) ++ uB (uw x.f0) ++ uB (uw x.f1) ++ uB (uw x.f2.f0) ++ sB x.f2.f1 ++ uB (uw x.f3)
def bodyB (total now : Int) (xs : List S44) : List Int := ([64] ++ uB 3) ++ uB (uw total) ++ uB (uw now) ++ ([64] ++ uB (xs.length : Int)) ++ xs.flatMap recB
def digB (s : ByteArray) : ByteArray := strOfNums (digits (dig s s.size))
def textB (s : ByteArray) : List Int := [48] ++ uB (s.size : Int) ++ bytesOf s
def saveB (total now : Int) (xs : List S44) : List Int := ([64] ++ uB 2) ++ textB (digB (strOfNums (bodyB total now xs))) ++ textB (strOfNums (bodyB total now xs))
def Ok44 (x : S44) : Prop := -9223372036854775808 ≤ x.f2.f1 ∧ x.f2.f1 ≤ 9223372036854775807
theorem recB_len (x : S44) (h : Ok44 x) : (recB x).length ≤ 60 := by
 have h1 := uB_len 5
 have h2 := uB_len (uw x.f0)
 have h3 := uB_len (uw x.f1)
 have h4 := uB_len (uw x.f2.f0)
 have h5 := sB_len x.f2.f1 h.1 h.2
 have h6 := uB_len (uw x.f3)
 unfold recB
 simp only [List.length_append, List.length_cons, List.length_nil]
 omega
theorem recs_len : ∀ (xs : List S44), (∀ x ∈ xs, Ok44 x) → (xs.flatMap recB).length ≤ 60 * xs.length
 | [], _ => by simp
 | x :: xs, h => by
  rw [List.flatMap_cons, List.length_append, List.length_cons]
  have h1 := recB_len x (h x (List.mem_cons_self ..))
  have h2 := recs_len xs (fun y hy => h y (List.mem_cons_of_mem _ hy))
  omega
theorem digB_size (s : ByteArray) : (digB s).size = 16 := by
 unfold digB
 rw [strOfNums_size]
 simp [digits]
theorem R44_keepT {B : Nat} {w w1 : World} {v : Value} {xs : List S44} (h : Kd.R k44 44 w B (fun _ => True) v xs) (hk : KeepT w w1) : Kd.R k44 44 w1 B (fun _ => True) v xs :=
 Kd.R_mono (Kd.R_step (Kd.R_bound h) (fun k hk' hlt => by
  obtain ⟨_, _, _, q, hq, cells, hc⟩ := hk'
  rcases List.mem_cons.1 hq with rfl | hq
  ·rw [hc]
   exact hk.keep k cells 44 hc (by decide) (by decide)
  ·cases hq)) (fun _ _ => trivial)
structure SvI (w : World) (gw : Nat) (l : List Int) (v : Value) (xs : List S44) (wr : World) : Prop where
 wtr : WrAt w.heap.size gw l wr
 bel : Below w.heap.size w wr
 own : Kd.R k44 44 wr w.heap.size (fun _ => True) v xs
structure SvO (wr : World) (go : Nat) (l : List Int) (wz : World) : Prop where
 wtr : WrAt wr.heap.size go l wz
 bel : Below wr.heap.size wr wz
theorem SvO.step {wr wz w1 : World} {go : Nat} {l l' : List Int} {r : Value} {e : Ending} (h : SvO wr go l wz) (hp : WrPost wr.heap.size go l' wz r e w1) : SvO wr go l' w1 := ⟨hp.2.1, h.bel.trans hp.2.2.1⟩
theorem SvO.below {wr wz w1 : World} {go : Nat} {l : List Int} (h : SvO wr go l wz) (hb : Below wz.heap.size wz w1) : SvO wr go l w1 := ⟨h.wtr.below hb, below_step h.bel hb⟩
def SavePost (w : World) (s : ByteArray) (e : Ending) (w' : World) : Prop := e = .returned (.string s) ∧ Below w.heap.size w w'
theorem SvI.step {w wr w1 : World} {gw : Nat} {l l' : List Int} {v r : Value} {xs : List S44} {e : Ending} (h : SvI w gw l v xs wr) (hp : WrPost w.heap.size gw l' wr r e w1) : SvI w gw l' v xs w1 := ⟨hp.2.1, h.bel.trans hp.2.2.1, R44_keepT h.own hp.2.2.2⟩
theorem SvI.below {w wr w1 : World} {gw : Nat} {l : List Int} {v : Value} {xs : List S44} (h : SvI w gw l v xs wr) (hb : Below wr.heap.size wr w1) : SvI w gw l v xs w1 := ⟨h.wtr.below hb, below_step h.bel hb, Kd.R_below h.own hb⟩
structure SvL (w : World) (gw : Nat) (l : List Int) (B g : Nat) (L : Lg) (wr : World) : Prop where
 wtr : WrAt w.heap.size gw l wr
 bel : Below w.heap.size w wr
 log : LogAt B g L wr
theorem SvL.step {w wr w1 : World} {gw B g : Nat} {l l' : List Int} {L : Lg} {r : Value} {e : Ending} (h0 : LogAt B g L w) (h : SvL w gw l B g L wr) (hp : WrPost w.heap.size gw l' wr r e w1) : SvL w gw l' B g L w1 := ⟨hp.2.1, h.bel.trans hp.2.2.1, h0.below (h.bel.trans hp.2.2.1)⟩
set_option maxHeartbeats 16000000 in
set_option maxRecDepth 100000 in
theorem save_calls (B g : Nat) (L : Lg) (w : World) (hG : Glob w) (h : LogAt B g L w) (h0 : 0 < w.heap.size) (hn : L.recs.length ≤ 1040) (hx : ∀ x ∈ L.recs, Ok44 x) :
  Calls Tryd.prog 22 #[.pointer (some ⟨g, 0, none⟩)] w fun e w' => SavePost w (strOfNums (saveB L.total L.now L.recs)) e w' := by
 have HG := Aside0.mk hG
 have HLG := Aside0.mk h
 have H0 := Aside0.mk h0
 have HLN := Aside0.mk (show L.recs.length ≤ 1000000 by omega)
 obtain ⟨xs, HXS⟩ : ∃ xs, Aside0 (L.recs = xs) := ⟨_, ⟨rfl⟩⟩
 rw [HXS.out] at hn hx
 have HXL := Aside0.mk (show 0 ≤ (xs.length : Int) ∧ (xs.length : Int) ≤ 65535 by omega)
 have HXN := Aside0.mk hn
 have HXO := Aside0.mk hx
 have b3 := uB_len 3
 have bt1 := uB_len (uw L.total)
 have bn1 := uB_len (uw L.now)
 have bx1 := uB_len (xs.length : Int)
 obtain ⟨l1, HB1⟩ : ∃ l, Aside0 (([] : List Int) ++ ([64] ++ uB 3) = l) := ⟨_, ⟨rfl⟩⟩
 obtain ⟨l2, HB2⟩ : ∃ l, Aside0 (l1 ++ uB (uw L.total) = l) := ⟨_, ⟨rfl⟩⟩
 obtain ⟨l3, HB3⟩ : ∃ l, Aside0 (l2 ++ uB (uw L.now) = l) := ⟨_, ⟨rfl⟩⟩
 obtain ⟨l4, HB4⟩ : ∃ l, Aside0 (l3 ++ ([64] ++ uB (xs.length : Int)) = l) := ⟨_, ⟨rfl⟩⟩
 have HN1 := Aside0.mk (show l1.length ≤ 100000000 by rw [← HB1.out]; simp only [List.length_append, List.length_cons, List.length_nil]; omega)
 have HN2 := Aside0.mk (show l2.length ≤ 100000000 by rw [← HB2.out, ← HB1.out]; simp only [List.length_append, List.length_cons, List.length_nil]; omega)
 have HN3 := Aside0.mk (show l3.length ≤ 100000000 by rw [← HB3.out, ← HB2.out, ← HB1.out]; simp only [List.length_append, List.length_cons, List.length_nil]; omega)
 have HN4 := Aside0.mk (show l4.length ≤ 1000 by rw [← HB4.out, ← HB3.out, ← HB2.out, ← HB1.out]; simp only [List.length_append, List.length_cons, List.length_nil]; omega)
 clear b3 bt1 bn1 bx1 hn hx
 go_enter Tryd.func22, Tryd.ntmps22
 go_wp2_with (first | ((with_reducible refine gate_dst (N := 9) rfl ?_); refine box_event ?hg (N := 9) ?hd (cs := #[.slice none 0 0]) (t := 90) ?hr ?_; (case hd => rfl); (case hg => rfl); (case hr => first | (go_simp; done) | (go_simp; rfl)); intro gw hgz w0 hbox hb; have HL0 := Aside0.mk (show SvL w gw [] B g L w0 from ⟨⟨_, hbox, by rw [hgz]; exact Nat.le_refl _, Kd.R_nil _ _ _ _ _⟩, hb, HLG.out.below hb⟩); clear hb hbox hgz) | (go_at_call 45; (with_reducible refine (wrL w.heap.size gw [] 3 _ ⟨Glob.base HG.out H0.out HL0.out.bel⟩ H0.out HL0.out.bel.size HL0.out.wtr (by simp) (by decide)).mono ?_); rintro e w1 hp; have HL1 := Aside0.mk (SvL.step HLG.out HL0.out hp); rw [HB1.out] at HL1; obtain ⟨rfl, _⟩ := hp; obtain ⟨vq, rq, fq, hGq, _⟩ := HL1.out.log; have c12 := (blk_cell hGq 12).trans rfl; have c6 := (blk_cell hGq 6).trans rfl; clear hGq) | (go_at_call 46; (with_reducible refine (wrU w.heap.size gw l1 (uw L.total) _ ⟨Glob.base HG.out H0.out HL1.out.bel⟩ HL1.out.bel.size HL1.out.wtr HN1.out (uw_range _)).mono ?_); rintro e w2 hp; have HL2 := Aside0.mk (SvL.step HLG.out HL1.out hp); rw [HB2.out] at HL2; obtain ⟨rfl, _⟩ := hp; clear c12 c6; obtain ⟨vq, rq, fq, hGq, _⟩ := HL2.out.log; have c12 := (blk_cell hGq 12).trans rfl; have c6 := (blk_cell hGq 6).trans rfl; clear hGq) | (go_at_call 46; (with_reducible refine (wrU w.heap.size gw l2 (uw L.now) _ ⟨Glob.base HG.out H0.out HL2.out.bel⟩ HL2.out.bel.size HL2.out.wtr HN2.out (uw_range _)).mono ?_); rintro e w3 hp; have HL3 := Aside0.mk (SvL.step HLG.out HL2.out hp); rw [HB3.out] at HL3; obtain ⟨rfl, _⟩ := hp; clear c12 c6) | (go_at_call 14; (with_reducible refine (records_calls B g L _ HL3.out.log HLN.out).mono ?_); rintro e w4 ⟨v4, rfl, ho, hb⟩; rw [HXS.out] at ho; obtain ⟨A4, c4, e4⟩ := Kd.R_slice ho; subst e4; have HI4 := Aside0.mk (show SvI w gw l3 (.slice A4 xs.length c4) xs w4 from ⟨HL3.out.wtr.below hb, below_step HL3.out.bel hb, Kd.R_lower ho HL3.out.bel.size⟩); clear ho hb) | (go_at_call 45; (with_reducible refine (wrL w.heap.size gw l3 (xs.length : Int) _ ⟨Glob.base HG.out H0.out HI4.out.bel⟩ H0.out HI4.out.bel.size HI4.out.wtr HN3.out HXL.out).mono ?_); rintro e w5 hp; have HI5 := Aside0.mk (SvI.step HI4.out hp); rw [HB4.out] at HI5; obtain ⟨rfl, _⟩ := hp))
 go_loopw [34] (fun i wr => ∃ j : Nat, i = .int .i64 (j : Int) ∧ j ≤ xs.length ∧ Aside0 (SvI w gw (l4 ++ (xs.take j).flatMap recB) (.slice A4 xs.length c4) xs wr)) (fun i _ => xs.length - (intOf i).toNat)
 case atStart => exact ⟨0, by simp, Nat.zero_le _, by rw [List.take_zero, List.flatMap_nil, List.append_nil]; exact HI5⟩
 case round =>
  clear HI5 HI4 HL0 HL1 HL2 HL3
  obtain ⟨j, hk, hj, HI⟩ := hrel
  subst hk
  have HLJ := Aside0.mk (show (l4 ++ (xs.take j).flatMap recB).length ≤ 64000 by
   have h1 := recs_len (xs.take j) (fun x hx => HXO.out x (List.mem_of_mem_take hx))
   rw [List.length_append]
   have h2 : (xs.take j).length ≤ xs.length := by rw [List.length_take]; omega
   have h3 := HXN.out
   have h4 := HN4.out
   omega)
  obtain ⟨lj, HJE⟩ : ∃ l, Aside0 (l4 ++ (xs.take j).flatMap recB = l) := ⟨_, ⟨rfl⟩⟩
  rw [HJE.out] at HI HLJ
  obtain ⟨_, _, hC⟩ := Kd.R_reads' HI.out.own
  by_cases hlt : j < xs.length
  ·as_aux_lemma =>
   have hl1 : decide ((j : Int) < (xs.length : Int)) = true := decide_eq_true (by omega)
   have hl2 : decide (j < xs.length) = true := decide_eq_true hlt
   have hl3 : ((j : Int) < (xs.length : Int)) = True := eq_true (by omega)
   have hl4 : (j < xs.length) = True := eq_true hlt
   obtain ⟨ad, ea, z0, z1, z2, z3, z4, z5⟩ := at_T44 hC (j : Int) (by omega) (by omega)
   subst ea
   rw [Int.toNat_natCast] at z0 z1 z2 z3 z4 z5
   obtain ⟨rx, HRX⟩ : ∃ rx, Aside0 (rd_T44 xs (j : Int) = rx) := ⟨_, ⟨rfl⟩⟩
   rw [HRX.out] at z0 z1 z2 z3 z4 z5
   have HRX2 := Aside0.mk (show rx = xs[j] by rw [← HRX.out]; unfold rd_T44; simp [hlt])
   have HOX := Aside0.mk (show -9223372036854775808 ≤ rx.f2.f1 ∧ rx.f2.f1 ≤ 9223372036854775807 by rw [HRX2.out]; exact HXO.out _ (List.getElem_mem hlt))
   obtain ⟨m1, HM1⟩ : ∃ l, Aside0 (lj ++ ([64] ++ uB 5) = l) := ⟨_, ⟨rfl⟩⟩
   obtain ⟨m2, HM2⟩ : ∃ l, Aside0 (m1 ++ uB (uw rx.f0) = l) := ⟨_, ⟨rfl⟩⟩
   obtain ⟨m3, HM3⟩ : ∃ l, Aside0 (m2 ++ uB (uw rx.f1) = l) := ⟨_, ⟨rfl⟩⟩
   obtain ⟨m4, HM4⟩ : ∃ l, Aside0 (m3 ++ uB (uw rx.f2.f0) = l) := ⟨_, ⟨rfl⟩⟩
   obtain ⟨m5, HM5⟩ : ∃ l, Aside0 (m4 ++ sB rx.f2.f1 = l) := ⟨_, ⟨rfl⟩⟩
   obtain ⟨m6, HM6⟩ : ∃ l, Aside0 (m5 ++ uB (uw rx.f3) = l) := ⟨_, ⟨rfl⟩⟩
   have q0 := uB_len 5
   have q1 := uB_len (uw rx.f0)
   have q2 := uB_len (uw rx.f1)
   have q3 := uB_len (uw rx.f2.f0)
   have q4 := sB_len rx.f2.f1 HOX.out.1 HOX.out.2
   have HP0 := Aside0.mk (show lj.length ≤ 100000000 by have := HLJ.out; omega)
   have HP1 := Aside0.mk (show m1.length ≤ 100000000 by rw [← HM1.out]; have := HLJ.out; simp only [List.length_append, List.length_cons, List.length_nil]; omega)
   have HP2 := Aside0.mk (show m2.length ≤ 100000000 by rw [← HM2.out, ← HM1.out]; have := HLJ.out; simp only [List.length_append, List.length_cons, List.length_nil]; omega)
   have HP3 := Aside0.mk (show m3.length ≤ 100000000 by rw [← HM3.out, ← HM2.out, ← HM1.out]; have := HLJ.out; simp only [List.length_append, List.length_cons, List.length_nil]; omega)
   have HP4 := Aside0.mk (show m4.length ≤ 100000000 by rw [← HM4.out, ← HM3.out, ← HM2.out, ← HM1.out]; have := HLJ.out; simp only [List.length_append, List.length_cons, List.length_nil]; omega)
   have HP5 := Aside0.mk (show m5.length ≤ 100000000 by rw [← HM5.out, ← HM4.out, ← HM3.out, ← HM2.out, ← HM1.out]; have := HLJ.out; simp only [List.length_append, List.length_cons, List.length_nil]; omega)
   have HEND := Aside0.mk (show m6 = l4 ++ (xs.take (j + 1)).flatMap recB by
    rw [List.take_succ_eq_append_getElem hlt, List.flatMap_append, List.flatMap_cons, List.flatMap_nil, List.append_nil, ← List.append_assoc, HJE.out, ← HRX2.out, ← HM6.out, ← HM5.out, ← HM4.out, ← HM3.out, ← HM2.out, ← HM1.out]
    unfold recB
    simp only [List.append_assoc])
   have HLT := Aside0.mk hlt
   have HIS := HI
   clear q0 q1 q2 q3 q4 HRX2
   clear hlt hj hC
   go_wp2_with (first | ((with_reducible refine gate_dst (N := 6) rfl ?_); refine box_event ?hg (N := 6) ?hd (cs := #[.int .i64 0, .int .i64 0, .int .i64 0, .int .i64 0, .int .i64 0, .int .i64 0]) (t := 44) ?hr ?_; (case hd => rfl); (case hg => rfl); (case hr => first | (go_simp; done) | (go_simp; rfl)); intro gx hgx wa hbox hb; have HX0 := Aside0.mk hbox; have HBX := Aside0.mk hb; have HGX := Aside0.mk (show wr.heap.size ≤ gx by rw [hgx]; exact Nat.le_refl _); clear hb hbox hgx) | (refine wpList_store_row rfl 44 (.tmp 6) (.tmp _) rfl gx #[.int .i64 rx.f0, .int .i64 rx.f1, .int .i64 rx.f2.f0, .int .i64 rx.f2.f1, .int .i64 rx.f3, .int .i64 rx.f4] rfl rfl 44 #[.int .i64 0, .int .i64 0, .int .i64 0, .int .i64 0, .int .i64 0, .int .i64 0] HX0.out (by kernel_rfl) rfl (by simp [Value.oneCell']) ?_; have HX1 := Aside0.mk (setRow_heap _ _ _ #[.int .i64 rx.f0, .int .i64 rx.f1, .int .i64 rx.f2.f0, .int .i64 rx.f2.f1, .int .i64 rx.f3, .int .i64 rx.f4] _ _ HX0.out); have hb4 := below_setRow HBX.out HGX.out #[.int .i64 rx.f0, .int .i64 rx.f1, .int .i64 rx.f2.f0, .int .i64 rx.f2.f1, .int .i64 rx.f3, .int .i64 rx.f4]; have HI1 := Aside0.mk (HI.out.below hb4); clear hb4; generalize wa.setRow gx #[.int .i64 rx.f0, .int .i64 rx.f1, .int .i64 rx.f2.f0, .int .i64 rx.f2.f1, .int .i64 rx.f3, .int .i64 rx.f4] = w1 at HX1 HI1 ⊢; have y0 := (blk_cell HX1.out 0).trans rfl; have y1 := (blk_cell HX1.out 1).trans rfl; have y2 := (blk_cell HX1.out 2).trans rfl; have y3 := (blk_cell HX1.out 3).trans rfl; have y4 := (blk_cell HX1.out 4).trans rfl;  skip) | (go_at_call 45; (with_reducible refine (wrL w.heap.size gw lj 5 _ ⟨Glob.base HG.out H0.out HI1.out.bel⟩ H0.out HI1.out.bel.size HI1.out.wtr HP0.out (by decide)).mono ?_); rintro e w2 hp; have HI2 := Aside0.mk (SvI.step HI1.out hp); rw [HM1.out] at HI2; have HX2 := Aside0.mk (hp.2.2.2.keep _ _ _ HX1.out (by decide) (by decide)); obtain ⟨rfl, _⟩ := hp; clear y0 y1 y2 y3 y4; have y0 := (blk_cell HX2.out 0).trans rfl; have y1 := (blk_cell HX2.out 1).trans rfl; have y2 := (blk_cell HX2.out 2).trans rfl; have y3 := (blk_cell HX2.out 3).trans rfl; have y4 := (blk_cell HX2.out 4).trans rfl;  skip) | (go_at_call 46; (with_reducible refine (wrU w.heap.size gw m1 (uw rx.f0) _ ⟨Glob.base HG.out H0.out HI2.out.bel⟩ HI2.out.bel.size HI2.out.wtr HP1.out (uw_range _)).mono ?_); rintro e w3 hp; have HI3 := Aside0.mk (SvI.step HI2.out hp); rw [HM2.out] at HI3; have HX3 := Aside0.mk (hp.2.2.2.keep _ _ _ HX2.out (by decide) (by decide)); obtain ⟨rfl, _⟩ := hp; clear y0 y1 y2 y3 y4; have y0 := (blk_cell HX3.out 0).trans rfl; have y1 := (blk_cell HX3.out 1).trans rfl; have y2 := (blk_cell HX3.out 2).trans rfl; have y3 := (blk_cell HX3.out 3).trans rfl; have y4 := (blk_cell HX3.out 4).trans rfl;  skip) | (go_at_call 46; (with_reducible refine (wrU w.heap.size gw m2 (uw rx.f1) _ ⟨Glob.base HG.out H0.out HI3.out.bel⟩ HI3.out.bel.size HI3.out.wtr HP2.out (uw_range _)).mono ?_); rintro e w4 hp; have HI4 := Aside0.mk (SvI.step HI3.out hp); rw [HM3.out] at HI4; have HX4 := Aside0.mk (hp.2.2.2.keep _ _ _ HX3.out (by decide) (by decide)); obtain ⟨rfl, _⟩ := hp; clear y0 y1 y2 y3 y4; have y0 := (blk_cell HX4.out 0).trans rfl; have y1 := (blk_cell HX4.out 1).trans rfl; have y2 := (blk_cell HX4.out 2).trans rfl; have y3 := (blk_cell HX4.out 3).trans rfl; have y4 := (blk_cell HX4.out 4).trans rfl;  skip) | (go_at_call 46; (with_reducible refine (wrU w.heap.size gw m3 (uw rx.f2.f0) _ ⟨Glob.base HG.out H0.out HI4.out.bel⟩ HI4.out.bel.size HI4.out.wtr HP3.out (uw_range _)).mono ?_); rintro e w5 hp; have HI5 := Aside0.mk (SvI.step HI4.out hp); rw [HM4.out] at HI5; have HX5 := Aside0.mk (hp.2.2.2.keep _ _ _ HX4.out (by decide) (by decide)); obtain ⟨rfl, _⟩ := hp; clear y0 y1 y2 y3 y4; have y0 := (blk_cell HX5.out 0).trans rfl; have y1 := (blk_cell HX5.out 1).trans rfl; have y2 := (blk_cell HX5.out 2).trans rfl; have y3 := (blk_cell HX5.out 3).trans rfl; have y4 := (blk_cell HX5.out 4).trans rfl;  skip) | (go_at_call 47; (with_reducible refine (wrS w.heap.size gw m4 rx.f2.f1 _ ⟨Glob.base HG.out H0.out HI5.out.bel⟩ HI5.out.bel.size HI5.out.wtr HP4.out HOX.out).mono ?_); rintro e w6 hp; have HI6 := Aside0.mk (SvI.step HI5.out hp); rw [HM5.out] at HI6; have HX6 := Aside0.mk (hp.2.2.2.keep _ _ _ HX5.out (by decide) (by decide)); obtain ⟨rfl, _⟩ := hp; clear y0 y1 y2 y3 y4; have y0 := (blk_cell HX6.out 0).trans rfl; have y1 := (blk_cell HX6.out 1).trans rfl; have y2 := (blk_cell HX6.out 2).trans rfl; have y3 := (blk_cell HX6.out 3).trans rfl; have y4 := (blk_cell HX6.out 4).trans rfl;  skip) | (go_at_call 46; (with_reducible refine (wrU w.heap.size gw m5 (uw rx.f3) _ ⟨Glob.base HG.out H0.out HI6.out.bel⟩ HI6.out.bel.size HI6.out.wtr HP5.out (uw_range _)).mono ?_); rintro e w7 hp; have HI7 := Aside0.mk (SvI.step HI6.out hp); rw [HM6.out] at HI7; have HX7 := Aside0.mk (hp.2.2.2.keep _ _ _ HX6.out (by decide) (by decide)); obtain ⟨rfl, _⟩ := hp; clear y0 y1 y2 y3 y4; have y0 := (blk_cell HX7.out 0).trans rfl; have y1 := (blk_cell HX7.out 1).trans rfl; have y2 := (blk_cell HX7.out 2).trans rfl; have y3 := (blk_cell HX7.out 3).trans rfl; have y4 := (blk_cell HX7.out 4).trans rfl;  skip))
   have hwj : wrap64 ((j : Int) + 1) = ((j + 1 : Nat) : Int) := by rw [wrap_id (by omega) (by have := HXN.out; have := HLT.out; omega)]; omega
   refine ⟨⟨j + 1, by rw [hwj], HLT.out, by rw [← HEND.out]; exact HI7⟩, ?_⟩
   have := HLT.out
   rw [intOf_int, intOf_int, hwj, Int.toNat_natCast, Int.toNat_natCast]
   omega
  ·as_aux_lemma =>
   have hje : j = xs.length := by omega
   have hl1 : decide ((j : Int) < (xs.length : Int)) = false := decide_eq_false (by omega)
   have hl2 : decide (j < xs.length) = false := decide_eq_false hlt
   have hl3 : ((j : Int) < (xs.length : Int)) = False := eq_false (by omega)
   have hl4 : (j < xs.length) = False := eq_false hlt
   have HBODY := Aside0.mk (show lj = bodyB L.total L.now L.recs by
    rw [← HJE.out, hje, List.take_of_length_le (Nat.le_refl _), ← HB4.out, ← HB3.out, ← HB2.out, ← HB1.out, HXS.out]
    unfold bodyB
    simp only [List.nil_append, List.append_assoc])
   have HZ0 := Aside0.mk (show 0 < wr.heap.size from Nat.lt_of_lt_of_le H0.out HI.out.bel.size)
   obtain ⟨S1, HS1⟩ : ∃ s, Aside0 (strOfNums lj = s) := ⟨_, ⟨rfl⟩⟩
   have HSZ := Aside0.mk (show S1.size ≤ 64000 by rw [← HS1.out, strOfNums_size]; exact HLJ.out)
   obtain ⟨D, HD⟩ : ∃ d, Aside0 (digB S1 = d) := ⟨_, ⟨rfl⟩⟩
   have HDF := Aside0.mk (show codec_Digest.f S1 = some D by rw [← HD.out]; unfold codec_Digest.f digB; rw [if_pos (by have := HSZ.out; omega)])
   have HDZ := Aside0.mk (show D.size = 16 by rw [← HD.out]; exact digB_size S1)
   obtain ⟨n1, HN1'⟩ : ∃ l, Aside0 (([] : List Int) ++ ([64] ++ uB 2) = l) := ⟨_, ⟨rfl⟩⟩
   obtain ⟨n2, HN2'⟩ : ∃ l, Aside0 (n1 ++ ([48] ++ uB (D.size : Int) ++ bytesOf D) = l) := ⟨_, ⟨rfl⟩⟩
   obtain ⟨n3, HN3'⟩ : ∃ l, Aside0 (n2 ++ ([48] ++ uB (S1.size : Int) ++ bytesOf S1) = l) := ⟨_, ⟨rfl⟩⟩
   have q0 := uB_len 2
   have q1 := uB_len (D.size : Int)
   have q2 := bytesOf_length D
   have HP1 := Aside0.mk (show n1.length ≤ 100000000 by rw [← HN1'.out]; simp only [List.length_append, List.length_cons, List.length_nil]; omega)
   have HP2 := Aside0.mk (show n2.length ≤ 100000000 by rw [← HN2'.out, ← HN1'.out]; have := HDZ.out; simp only [List.length_append, List.length_cons, List.length_nil]; omega)
   have HFIN := Aside0.mk (show strOfNums n3 = strOfNums (saveB L.total L.now L.recs) by
    rw [← HN3'.out, ← HN2'.out, ← HN1'.out, ← HD.out, ← HS1.out, HBODY.out]
    unfold saveB textB
    rw [List.nil_append])
   clear q0 q1 q2 hlt hj hC hje
   go_wp2_with (first | ((with_reducible refine gate_dst (N := 68) rfl ?_); refine box_event ?hg (N := 68) ?hd (cs := #[.slice none 0 0]) (t := 90) ?hr ?_; (case hd => rfl); (case hg => rfl); (case hr => first | (go_simp; done) | (go_simp; rfl)); intro go hgz w0 hbox hb; have HO0 := Aside0.mk (show SvO wr go [] w0 from ⟨⟨_, hbox, by rw [hgz]; exact Nat.le_refl _, Kd.R_nil _ _ _ _ _⟩, hb⟩); clear hb hbox hgz) | (go_at_call 45; (with_reducible refine (wrL wr.heap.size go [] 2 _ ⟨Glob.base HG.out H0.out (below_step HI.out.bel HO0.out.bel)⟩ HZ0.out HO0.out.bel.size HO0.out.wtr (by simp) (by decide)).mono ?_); rintro e w1 hp; have HO1 := Aside0.mk (SvO.step HO0.out hp); rw [HN1'.out] at HO1; obtain ⟨rfl, _⟩ := hp) | (go_at_call 49; (with_reducible refine (wr_data wr.heap.size go n3 _ HO3.out.wtr).mono ?_); rintro e wd ⟨rfl, rfl⟩) | (first | (go_at_call 49; (with_reducible refine (wr_data w.heap.size gw lj _ (HI.out.wtr.below HO2.out.bel)).mono ?_); rintro e wd ⟨rfl, rfl⟩; rw [HS1.out]) | (go_at_call 49; (with_reducible refine (wr_data w.heap.size gw lj _ (HI.out.wtr.below HO1.out.bel)).mono ?_); rintro e wd ⟨rfl, rfl⟩; rw [HS1.out])) | (go_at_call 35; (with_reducible refine (codec_Digest.calls S1 D _ (Glob.base HG.out H0.out (below_step HI.out.bel HO1.out.bel)) HDF.out).mono ?_); rintro e w1b ⟨rfl, hb⟩; have HO1b := Aside0.mk (HO1.out.below hb); clear hb) | (go_at_call 48; (with_reducible refine (wrT wr.heap.size go n2 S1 _ ⟨Glob.base HG.out H0.out (below_step HI.out.bel HO2.out.bel)⟩ HZ0.out HO2.out.bel.size HO2.out.wtr HP2.out (by have := HSZ.out; omega)).mono ?_); rintro e w3 hp; have HO3 := Aside0.mk (SvO.step HO2.out hp); rw [HN3'.out] at HO3; obtain ⟨rfl, _⟩ := hp) | (go_at_call 48; (with_reducible refine (wrT wr.heap.size go n1 D _ ⟨Glob.base HG.out H0.out (below_step HI.out.bel HO1b.out.bel)⟩ HZ0.out HO1b.out.bel.size HO1b.out.wtr HP1.out (by have := HDZ.out; omega)).mono ?_); rintro e w2 hp; have HO2 := Aside0.mk (SvO.step HO1b.out hp); rw [HN2'.out] at HO2; obtain ⟨rfl, _⟩ := hp))
   go_ret
   rw [← HFIN.out]
   exact ⟨rfl, below_step HI.out.bel HO3.out.bel⟩
end Go.Proofs.YtbccjcdmpiolpaaDoor.T
end
section
namespace Go.Proofs.YtbccjcdmpiolpaaDoor.Pure
open Go.RowKit Go.Proofs.YtbccjcdmpiolpaaDoor.T Go.Proofs.YtbccjcdmpiolpaaDoorW.PrintWords Go.Proofs.YtbccjcdmpiolpaaDoorW.PrintLast Go.Proofs.YtbccjcdmpiolpaaDoorW.PrintMore
set_option linter.unusedVariables false
set_option linter.unusedSimpArgs false
end Go.Proofs.YtbccjcdmpiolpaaDoor.Pure
end
section
namespace Go.Proofs.YtbccjcdmpiolpaaDoor.Pure
open Go.RowKit Go.Proofs.YtbccjcdmpiolpaaDoor.T Go.Proofs.YtbccjcdmpiolpaaDoorW.PrintWords Go.Proofs.YtbccjcdmpiolpaaDoorW.PrintLast Go.Proofs.YtbccjcdmpiolpaaDoorW.PrintMore
set_option linter.unusedVariables false
set_option linter.unusedSimpArgs false
theorem rawS3 (s : ByteArray) (p : Int) : (∀ v e, uS s p = some (v, e) → rawS s p 3 = (v, e, true)) ∧ (uS s p = none → (rawS s p 3).2.2 = false) := by
 unfold uS rawS
 refine ⟨fun v e h => ?_, fun h => ?_⟩
 ·split at h
  ·rename_i c
   obtain ⟨rfl, rfl⟩ := Prod.mk.inj (Option.some.inj h)
   rw [if_pos c.1, if_neg (by omega), if_pos rfl, c.2.2]
   simp
  ·cases h
 ·split at h
  ·cases h
  ·rename_i c
   by_cases c1 : kindS s p = 3
   ·rw [if_pos c1]
    by_cases c2 : p + 1 + (cnt s p : Int) > (s.size : Int)
    ·rw [if_pos c2]
    ·rw [if_neg c2, if_pos rfl]
     show (nb (val s p) == (cnt s p : Int)) = false
     rw [beq_eq_false_iff_ne]
     exact fun h' => c ⟨c1, by omega, h'⟩
   ·rw [if_neg c1]
theorem rawS4 (s : ByteArray) (p : Int) : (∀ v e, sS s p = some (v, e) → rawS s p 4 = (IntKind.u64.wrap v, e, true)) ∧ (sS s p = none → (rawS s p 4).2.2 = false) := by
 unfold sS rawS
 refine ⟨fun v e h => ?_, fun h => ?_⟩
 ·split at h
  ·rename_i c
   obtain ⟨rfl, rfl⟩ := Prod.mk.inj (Option.some.inj h)
   rw [if_pos c.1, if_neg (by omega), if_neg (by decide), c.2.2]
   simp
  ·cases h
 ·split at h
  ·cases h
  ·rename_i c
   by_cases c1 : kindS s p = 4
   ·rw [if_pos c1]
    by_cases c2 : p + 1 + (cnt s p : Int) > (s.size : Int)
    ·rw [if_pos c2]
    ·rw [if_neg c2, if_neg (by decide)]
     show (ss (sgn (cnt s p) (val s p)) == (cnt s p : Int)) = false
     rw [beq_eq_false_iff_ne]
     exact fun h' => c ⟨c1, by omega, h'⟩
   ·rw [if_neg c1]
theorem uS_some {s : ByteArray} {p v e : Int} (h : uS s p = some (v, e)) : 0 ≤ p ∧ p + 1 < e ∧ e ≤ (s.size : Int) ∧ 0 ≤ v ∧ v < 18446744073709551616 := by
 unfold uS at h
 split at h
 ·rename_i c
  obtain ⟨rfl, rfl⟩ := Prod.mk.inj (Option.some.inj h)
  have hc := cnt_of (Or.inl c.1)
  have hk := kindS_in (s := s) (p := p) (by omega)
  have hr := beN_range s (p + 1) (cnt s p)
  have hlt : beN s (p + 1) (cnt s p) < 256 ^ 8 := beN_lt hc.2
  simp only [Int.reducePow] at hlt
  unfold val
  omega
 ·cases h
theorem sS_some {s : ByteArray} {p v e : Int} (h : sS s p = some (v, e)) : 0 ≤ p ∧ p + 1 < e ∧ e ≤ (s.size : Int) ∧ -9223372036854775808 ≤ v ∧ v ≤ 9223372036854775807 := by
 unfold sS at h
 split at h
 ·rename_i c
  obtain ⟨rfl, rfl⟩ := Prod.mk.inj (Option.some.inj h)
  have hc := cnt_of (Or.inr c.1)
  have hk := kindS_in (s := s) (p := p) (by omega)
  have hr := sgn_range hc.1 hc.2 (beN_range s (p + 1) (cnt s p))
  unfold val
  omega
 ·cases h
def tS (s : ByteArray) (p : Int) : Option (ByteArray × Int) :=
 if kindS s p = 5 then match uS s (p + 1) with
  | some (v, e) => if v > 65535 then none else if v > (s.size : Int) - e then none else some (s.extract e.toNat (e + v).toNat, e + v)
  | none => none
 else none
def lS (s : ByteArray) (p : Int) : Option (Int × Int) :=
 if kindS s p = 6 then match uS s (p + 1) with
  | some (v, e) => if v > 65535 then none else some (v, e)
  | none => none
 else none
def optT (o : Option (ByteArray × Int)) : ByteArray × Int × Bool := match o with | some (v, e) => (v, e, true) | none => ((⟨#[]⟩ : ByteArray), 0, false)
theorem text_eq (k : Nat) (s : ByteArray) (p : Int) (hz : s.size ≤ 140737488355327) : codec_text.f (k + 12) s p = some (optT (tS s p)) := by
 unfold codec_text.f tS
 rw [show k + 12 = (k + 9) + 3 from rfl, kind_eq, Option.bind_some]
 by_cases c : kindS s p = 5
 ·have hk := kindS_in (s := s) (p := p) (by omega)
  rw [if_pos c, if_pos c, show k + 9 + 3 = k + 12 from rfl, w64 (n := p + 1) (by omega) (by omega), raw_eq _ _ _ _ (Or.inl rfl) hz, Option.bind_some]
  cases hu : uS s (p + 1) with
  | none =>
   rw [(rawS3 s (p + 1)).2 hu, if_neg (by decide)]
   rfl
  | some ve =>
   obtain ⟨v, e⟩ := ve
   have hb := uS_some hu
   show _ = some (optT (if v > 65535 then none else if v > (s.size : Int) - e then none else some (s.extract e.toNat (e + v).toNat, e + v)))
   rw [(rawS3 s (p + 1)).1 v e hu, if_pos (show ((v, e, true) : Int × Int × Bool).2.2 = true from rfl), show ((v, e, true) : Int × Int × Bool).1 = v from rfl, show ((v, e, true) : Int × Int × Bool).2.1 = e from rfl]
   by_cases c1 : v > 65535
   ·rw [if_pos c1, if_pos c1]; rfl
   ·rw [if_neg c1, if_neg c1, w64 (n := v) (by omega) (by omega), w64 (n := (s.size : Int) - e) (by omega) (by omega), w64 (n := e + v) (by omega) (by omega)]
    by_cases c2 : v > (s.size : Int) - e
    ·rw [if_pos c2, if_pos c2]; rfl
    ·rw [if_neg c2, if_neg c2, if_pos (by omega), if_pos (by omega), if_pos (by omega)]; rfl
 ·rw [if_neg c, if_neg c]; rfl
theorem list_eq (k : Nat) (s : ByteArray) (p : Int) (hz : s.size ≤ 140737488355327) : codec_list.f (k + 12) s p = some (opt3 (lS s p)) := by
 unfold codec_list.f lS
 rw [show k + 12 = (k + 9) + 3 from rfl, kind_eq, Option.bind_some]
 by_cases c : kindS s p = 6
 ·have hk := kindS_in (s := s) (p := p) (by omega)
  rw [if_pos c, if_pos c, show k + 9 + 3 = k + 12 from rfl, w64 (n := p + 1) (by omega) (by omega), raw_eq _ _ _ _ (Or.inl rfl) hz, Option.bind_some]
  cases hu : uS s (p + 1) with
  | none =>
   rw [(rawS3 s (p + 1)).2 hu, if_neg (by decide)]
   rfl
  | some ve =>
   obtain ⟨v, e⟩ := ve
   have hb := uS_some hu
   show _ = some (opt3 (if v > 65535 then none else some (v, e)))
   rw [(rawS3 s (p + 1)).1 v e hu, if_pos (show ((v, e, true) : Int × Int × Bool).2.2 = true from rfl), show ((v, e, true) : Int × Int × Bool).1 = v from rfl, show ((v, e, true) : Int × Int × Bool).2.1 = e from rfl]
   by_cases c1 : v > 65535
   ·rw [if_pos c1, if_pos c1]; rfl
   ·rw [if_neg c1, if_neg c1, w64 (n := v) (by omega) (by omega)]; rfl
 ·rw [if_neg c, if_neg c]; rfl
end Go.Proofs.YtbccjcdmpiolpaaDoor.Pure
end
section
namespace Go.Proofs.YtbccjcdmpiolpaaDoor.Pure
open Go.RowKit Go.Proofs.YtbccjcdmpiolpaaDoor.T Go.Proofs.YtbccjcdmpiolpaaDoorW.PrintWords Go.Proofs.YtbccjcdmpiolpaaDoorW.PrintLast Go.Proofs.YtbccjcdmpiolpaaDoorW.PrintMore
set_option linter.unusedVariables false
set_option linter.unusedSimpArgs false
theorem lS_some {s : ByteArray} {p v e : Int} (h : lS s p = some (v, e)) : 0 ≤ p ∧ p + 1 < e ∧ e ≤ (s.size : Int) ∧ 0 ≤ v ∧ v ≤ 65535 := by
 unfold lS at h
 by_cases c : kindS s p = 6
 ·have hk := kindS_in (s := s) (p := p) (by omega)
  rw [if_pos c] at h
  cases hu : uS s (p + 1) with
  | none => rw [hu] at h; cases h
  | some ve =>
   obtain ⟨v', e'⟩ := ve
   have hb := uS_some hu
   rw [hu] at h
   have h' : (if v' > 65535 then none else some (v', e')) = some (v, e) := h
   by_cases c1 : v' > 65535
   ·rw [if_pos c1] at h'; cases h'
   ·rw [if_neg c1] at h'
    obtain ⟨rfl, rfl⟩ := Prod.mk.inj (Option.some.inj h')
    omega
 ·rw [if_neg c] at h; cases h
theorem tS_some {s : ByteArray} {p : Int} {t : ByteArray} {e : Int} (h : tS s p = some (t, e)) : 0 ≤ p ∧ p + 1 < e ∧ e ≤ (s.size : Int) := by
 unfold tS at h
 by_cases c : kindS s p = 5
 ·have hk := kindS_in (s := s) (p := p) (by omega)
  rw [if_pos c] at h
  cases hu : uS s (p + 1) with
  | none => rw [hu] at h; cases h
  | some ve =>
   obtain ⟨v', e'⟩ := ve
   have hb := uS_some hu
   rw [hu] at h
   have h' : (if v' > 65535 then none else if v' > (s.size : Int) - e' then none else some (s.extract e'.toNat (e' + v').toNat, e' + v')) = some (t, e) := h
   by_cases c1 : v' > 65535
   ·rw [if_pos c1] at h'; cases h'
   ·rw [if_neg c1] at h'
    by_cases c2 : v' > (s.size : Int) - e'
    ·rw [if_pos c2] at h'; cases h'
    ·rw [if_neg c2] at h'
     obtain ⟨rfl, rfl⟩ := Prod.mk.inj (Option.some.inj h')
     omega
 ·rw [if_neg c] at h; cases h
theorem opt3_none : opt3 none = (0, 0, false) := rfl
theorem opt3_some (v e : Int) : opt3 (some (v, e)) = (v, e, true) := rfl
theorem optT_none : optT none = ((⟨#[]⟩ : ByteArray), 0, false) := rfl
theorem optT_some (v : ByteArray) (e : Int) : optT (some (v, e)) = (v, e, true) := rfl
end Go.Proofs.YtbccjcdmpiolpaaDoor.Pure
end
section
namespace Go.Proofs.YtbccjcdmpiolpaaDoor.T
open Go.RowKit Go.Proofs.YtbccjcdmpiolpaaDoorW.PrintWords Go.Proofs.YtbccjcdmpiolpaaDoorW.PrintLast Go.Proofs.YtbccjcdmpiolpaaDoorW.PrintMore
attribute [local go_sem] max2_int min2_int max_two min_two max_three min_three max_four min_four
set_option linter.unusedVariables false
set_option linter.unusedSimpArgs false
def IsS102 (w0 W : World) (g : Nat) (f0 : ByteArray) (f1 : Int) (f2 : Int) : Prop := W.heap[g]? = some (.cells #[.string f0, .int .i64 f1, .int .i64 f2] 102 (0, 0)) ∧ w0.heap.size ≤ g
theorem IsS102.grown {w0 W : World} {g : Nat} {f0 : ByteArray} {f1 : Int} {f2 : Int} {W1 : World} {row : Option Nat} (h : IsS102 w0 W g f0 f1 f2) (hw : W.grownBy W1 row) (hne : some g ≠ row) : IsS102 w0 W1 g f0 f1 f2 := by
 obtain ⟨hb, hg⟩ := h
 exact ⟨blk_grown hb hw hne, hg⟩
theorem IsS102.below {w0 W : World} {g : Nat} {f0 : ByteArray} {f1 : Int} {f2 : Int} {W1 : World} (h : IsS102 w0 W g f0 f1 f2) (hw : Below W.heap.size W W1) : IsS102 w0 W1 g f0 f1 f2 := h.grown (grown_of_below hw none) (by simp)
theorem IsS102.drewN {w0 W : World} {g : Nat} {f0 : ByteArray} {f1 : Int} {f2 : Int} (h : IsS102 w0 W g f0 f1 f2) (m : Nat) : IsS102 w0 (W.drewN m) g f0 f1 f2 := h
theorem IsS102.drew {w0 W : World} {g : Nat} {f0 : ByteArray} {f1 : Int} {f2 : Int} (h : IsS102 w0 W g f0 f1 f2) : IsS102 w0 W.drew g f0 f1 f2 := h
theorem IsS102.ge {w0 W : World} {g : Nat} {f0 : ByteArray} {f1 : Int} {f2 : Int} (h : IsS102 w0 W g f0 f1 f2) : w0.heap.size ≤ g := by
 obtain ⟨hb, hg⟩ := h
 exact hg
theorem cellS102_0 {W : World} {g : Nat} {f0 : ByteArray} {f1 : Int} {f2 : Int} (h : W.heap[g]? = some (.cells #[.string f0, .int .i64 f1, .int .i64 f2] 102 (0, 0))) : W.cell? ⟨g, 0, none⟩ = some (.string f0) := (blk_cell h 0).trans rfl
theorem cellS102_1 {W : World} {g : Nat} {f0 : ByteArray} {f1 : Int} {f2 : Int} (h : W.heap[g]? = some (.cells #[.string f0, .int .i64 f1, .int .i64 f2] 102 (0, 0))) : W.cell? ⟨g, 1, none⟩ = some (.int .i64 f1) := (blk_cell h 1).trans rfl
theorem IsS102.set_1 {w0 W : World} {g : Nat} {f0 : ByteArray} {f1 : Int} {f2 : Int} (h : IsS102 w0 W g f0 f1 f2) (x : Int) : IsS102 w0 (W.setCell ⟨g, 1, none⟩ (.int .i64 x)) g f0 x f2 := by
 obtain ⟨hb, hg⟩ := h
 exact ⟨by simpa using blk_set hb 1 (.int .i64 x), hg⟩
theorem cellS102_2 {W : World} {g : Nat} {f0 : ByteArray} {f1 : Int} {f2 : Int} (h : W.heap[g]? = some (.cells #[.string f0, .int .i64 f1, .int .i64 f2] 102 (0, 0))) : W.cell? ⟨g, 2, none⟩ = some (.int .i64 f2) := (blk_cell h 2).trans rfl
theorem IsS102.set_2 {w0 W : World} {g : Nat} {f0 : ByteArray} {f1 : Int} {f2 : Int} (h : IsS102 w0 W g f0 f1 f2) (x : Int) : IsS102 w0 (W.setCell ⟨g, 2, none⟩ (.int .i64 x)) g f0 f1 x := by
 obtain ⟨hb, hg⟩ := h
 exact ⟨by simpa using blk_set hb 2 (.int .i64 x), hg⟩
def codec_NewReader.f (a0 : ByteArray) : Option (ByteArray × Int × Int) := some (a0, 0, 0)
set_option maxHeartbeats 8000000 in
set_option maxRecDepth 100000 in
theorem codec_NewReader.calls (a0 : ByteArray) (r1 : ByteArray) (r2 : Int) (r3 : Int) (w0 w : World) (hG : Glob w0) (hB : Below w0.heap.size w0 w) (h : codec_NewReader.f a0 = some (r1, r2, r3)) :
  Calls Tryd.prog 31 #[.string a0] w fun e w' => ∃ g_ : Nat, e = .returned (.pointer (some ⟨g_, 0, none⟩)) ∧ IsS102 w0 w' g_ r1 r2 r3 ∧ Below w0.heap.size w0 w' ∧ Below w.heap.size w w' := by
 have hu102 := Tryd.underlying102
 have HG := Aside0.mk hG
 clear hG
 have HBW := Aside0.mk (Below.refl w.heap.size w)
 have HW0 := Aside0.mk hB.size
 have HB := Aside0.mk hB
 clear hB
 have H : (some (a0, 0, 0)) = some (r1, r2, r3) := h
 clear h
 simp only [Option.some.injEq, Prod.mk.injEq] at H
 obtain ⟨rfl, rfl, rfl⟩ := H
 go_enter Tryd.func31, Tryd.ntmps31
 go_wp2_with (first | ((with_reducible refine gate_dst (N := 5) rfl ?_); refine box_event ?hg (N := 5) ?hd (cs := #[.string a0, .int .i64 0, .int .i64 0]) (t := 102) ?hr ?_; (case hd => rfl); (case hg => rfl); (case hr => first | (go_simp; done) | (go_simp; rfl)); intro gb112 hg w2 hbox hb; have n0_ := Aside0.mk (below_step HBW.out hb); have n1_ := Aside0.mk (below_step (by repeat (first | (with_reducible first | exact HB.out | apply below_alloc | apply pw_below_drewN | apply below_drew1) | exact HB.out)) hb); have n2_ := Aside0.mk (hbox); have n3_ := Aside0.mk ((by rw [hg]; exact (below_size (by repeat (first | (with_reducible first | exact HBW.out | apply below_alloc | apply pw_below_drewN | apply below_drew1) | exact HBW.out))) : w.heap.size ≤ gb112)); have n4_ := Aside0.mk ((Nat.le_trans HW0.out (by rw [hg]; exact (below_size (by repeat (first | (with_reducible first | exact HBW.out | apply below_alloc | apply pw_below_drewN | apply below_drew1) | exact HBW.out))) : w.heap.size ≤ gb112) : w0.heap.size ≤ gb112)); clear HBW; clear HB; have HBW := n0_; have HB := n1_; have BK112 := n2_; have GW112 := n3_; have GE112 := n4_; clear n0_ n1_ n2_ n3_ n4_; clear hb hbox hg))
 go_ret
 exact ⟨_, rfl, (show IsS102 w0 _ gb112 a0 0 0 from ⟨by (with_reducible repeat (first | refine blk_drewN ?_ _ | refine blk_drew ?_ | refine blk_alloc ?_ _)); exact BK112.out, GE112.out⟩), by repeat (first | (with_reducible first | exact HB.out | apply below_alloc | apply pw_below_drewN | apply below_drew1 | refine below_set ?_ GE112.out) | exact HB.out), by repeat (first | (with_reducible first | exact HBW.out | apply below_alloc | apply pw_below_drewN | apply below_drew1 | refine below_set ?_ GW112.out) | exact HBW.out)⟩
end Go.Proofs.YtbccjcdmpiolpaaDoor.T
end
section
namespace Go.Proofs.YtbccjcdmpiolpaaDoor.T
open Go.RowKit Go.Proofs.YtbccjcdmpiolpaaDoorW.PrintWords Go.Proofs.YtbccjcdmpiolpaaDoorW.PrintLast Go.Proofs.YtbccjcdmpiolpaaDoorW.PrintMore
attribute [local go_sem] max2_int min2_int max_two min_two max_three min_three max_four min_four
set_option linter.unusedVariables false
set_option linter.unusedSimpArgs false
def codec_Reader_List.f (k : Nat) (s0_0 : ByteArray) (s0_1 : Int) (s0_2 : Int) : Option (Int × ByteArray × Int × Int) := if s0_2 = 0 then ((codec_list.f k s0_0 s0_1).bind fun bt123 => (if bt123.2.2 = true then (some (bt123.1, s0_0, bt123.2.1, s0_2)) else (some (0, s0_0, s0_1, 2)))) else (some (0, s0_0, s0_1, s0_2))
def codec_Reader_List.T60004 : Bool × List (List Nat × List Nat) := (true, [([], []), ([], []), ([1], [1]), ([2], [2]), ([3], [3]), ([], []), ([5], [5]), ([6], [6]), ([7], [7]), ([0, 4, 8], [0, 4, 8]), ([9], [9]), ([10], [10]), ([10], [10]), ([10], [10]), ([11, 9, 0, 1, 2, 3, 4, 5, 6, 7, 8, 9, 10, 11], [11]), ([12, 14, 0, 1, 2, 3, 4, 5, 6, 7, 8, 9, 10, 11, 12, 14], [12]), ([13, 15, 0, 1, 2, 3, 4, 5, 6, 7, 8, 9, 10, 11, 12, 13, 14, 15], [13])])
def codec_Reader_List.B60004 : List Nat := [0, 0, 2, 6, 14, 0, 32, 96, 224, 511, 1023, 2047, 2047, 2047, 4095, 24575, 65535]
theorem codec_Reader_List.tab60004 : rtab .any (opsOf Tryd.f60 4) = codec_Reader_List.T60004 := by kernel_rfl
theorem codec_Reader_List.bits60004 : waitsOk codec_Reader_List.T60004.2 codec_Reader_List.B60004 = true := by kernel_rfl
set_option maxHeartbeats 8000000 in
set_option maxRecDepth 100000 in
theorem codec_Reader_List.calls (k : Nat) (g : Nat) (s0_0 : ByteArray) (s0_1 : Int) (s0_2 : Int) (r1 : Int) (r2 : ByteArray) (r3 : Int) (r4 : Int) (w0 w : World) (hG : Glob w0) (hI : IsS102 w0 w g s0_0 s0_1 s0_2) (hB : Below w0.heap.size w0 w) (h : codec_Reader_List.f k s0_0 s0_1 s0_2 = some (r1, r2, r3, r4)) :
  Calls Tryd.prog 37 #[.pointer (some ⟨g, 0, none⟩)] w fun e w' => e = .returned (.int .i64 r1) ∧ IsS102 w0 w' g r2 r3 r4 ∧ Below w0.heap.size w0 w' ∧ KeepBut w w' g none := by
 have hmf_ : ∀ (fn : Fn) (first cap : Array Value) (w : World), (Instr.makeFunc fn first cap).run Tryd.prog w = .ok (.func fn first cap) w := fun _ _ _ _ => rfl
 have HG := Aside0.mk hG
 clear hG
 have HI0 := Aside0.mk hI
 have HK := Aside0.mk (KeepBut.refl w g none)
 have HL := Aside0.mk hB.size
 clear hI
 have HW0 := Aside0.mk hB.size
 have HB := Aside0.mk hB
 clear hB
 have H : (if s0_2 = 0 then ((codec_list.f k s0_0 s0_1).bind fun bt123 => (if bt123.2.2 = true then (some (bt123.1, s0_0, bt123.2.1, s0_2)) else (some (0, s0_0, s0_1, 2)))) else (some (0, s0_0, s0_1, s0_2))) = some (r1, r2, r3, r4) := h
 clear h
 by_cases c2 : s0_2 = 0
 ·rw [if_pos c2] at H
  have c2b0 : (s0_2 == 0) = true := beq_iff_eq.mpr c2
  have c2b1 : (s0_2 != 0) = false := bne_eq_false_iff_eq.mpr c2
  clear c2
  replace H := Option.bind_eq_some_iff.mp H
  obtain ⟨⟨t123, t124, t125⟩, A30, H⟩ := H
  replace H : (if t125 = true then (some (t123, s0_0, t124, s0_2)) else (some (0, s0_0, s0_1, 2))) = some (r1, r2, r3, r4) := H
  have A3 := Aside0.mk A30
  clear A30
  by_cases c4 : t125 = true
  ·subst c4
   have H1 : (some (t123, s0_0, t124, s0_2)) = some (r1, r2, r3, r4) := by rw [if_pos rfl] at H; exact H
   clear H
   have H := H1
   clear H1
   simp only [Option.some.injEq, Prod.mk.injEq] at H
   obtain ⟨rfl, rfl, rfl, rfl⟩ := H
   obtain ⟨HGz5, hgz5⟩ := HI0.out
   have hcz5_0 := cellS102_0 HGz5
   have hcz5_1 := cellS102_1 HGz5
   have hcz5_2 := cellS102_2 HGz5
   have hfz5_0 := blk_frozen HGz5 0
   have hfz5_1 := blk_frozen HGz5 1
   have hfz5_2 := blk_frozen HGz5 2
   clear HGz5 hgz5
   go_enter Tryd.func37, Tryd.ntmps37
   try go_wp2_with (first | (go_at_call 60; go_in) | ((try simp only [Exit.inBlock, Exit.then]); refine bodyPost_end (results_none rfl _ _ _) rfl ?_; simp only []; go_at_K))
   have n0_ := Aside0.mk (IsS102.drew HI0.out)
   have n1_ := Aside0.mk (keep_drew HK.out)
   have n2_ := Aside0.mk (below_drew1 HB.out)
   clear HI0
   clear HK
   clear HB
   have HI0 := n0_
   have HK := n1_
   have HB := n2_
   clear n0_ n1_ n2_
   refine start_ (n := 17) (S := fun w' => w'.cell? ⟨g, 0, none⟩ = some (.string s0_0) ∧ w'.cell? ⟨g, 1, none⟩ = some (.int .i64 s0_1) ∧ w'.cell? ⟨g, 2, none⟩ = some (.int .i64 s0_2)) (ds := []) #[Yn, Yn, Yn, Yn, Yn, Yn, Yn, Yn, Yn, Yn, Yn, Yn, Yn, Yn, Yn, Yn, Yn] (by kernel_rfl) rfl rfl ⟨(blk_cell (Aside0.mk HI0.out.1).out 0).trans rfl, (blk_cell (Aside0.mk HI0.out.1).out 1).trans rfl, (blk_cell (Aside0.mk HI0.out.1).out 2).trans rfl⟩ (fun hHeld => ?_); refine with_tabW codec_Reader_List.tab60004 codec_Reader_List.bits60004 (fun HT_ HW_ => ?_)
   generalize w.drew = w6 at HI0 HK HB hHeld ⊢
   refine pure_ (i := 0) (N := some 16) (v := ?_) (a' := ?_) (Bz 17 0x1) rfl rfl (any_of HT_.out (by kernel_rfl)) (fun _ _ _ h => h) (Or.inl ⟨by rfl, ?_⟩) ?_ ?_
   rotate_left
   ·intro w'; go_simp; with_reducible rfl
   rotate_left; ·simp only [Act.put, Z1, Z2, Z3, i64_w, i32_w]; rfl
   refine pure_ (i := 1) (N := some 17) (v := ?_) (a' := ?_) (Bz 17 0x3) rfl rfl (any_of HT_.out (by kernel_rfl)) (fun _ _ _ h => h) (Or.inl ⟨by rfl, ?_⟩) ?_ ?_
   rotate_left
   ·intro w'; go_simp; with_reducible rfl
   rotate_left; ·simp only [Act.put, Z1, Z2, Z3, i64_w, i32_w]; rfl
   refine pure_ (i := 2) (N := some 18) (v := ?_) (a' := ?_) (Bz 17 0x7) rfl rfl (any_of HT_.out (by kernel_rfl)) (fun _ _ _ h => h) (Or.inl ⟨by rfl, ?_⟩) ?_ ?_
   rotate_left
   ·intro w'; go_simp; with_reducible rfl
   rotate_left; ·simp only [Act.put, Z1, Z2, Z3, i64_w, i32_w]; rfl
   refine pure_ (i := 3) (N := some 19) (v := ?_) (a' := ?_) (Bz 17 0xf) rfl rfl (any_of HT_.out (by kernel_rfl)) (fun _ _ _ h => h) (Or.inl ⟨by rfl, ?_⟩) ?_ ?_
   rotate_left
   ·intro w'; go_simp; with_reducible rfl
   rotate_left; ·simp only [Act.put, Z1, Z2, Z3, i64_w, i32_w]; rfl
   refine pure_ (i := 5) (N := some 21) (v := ?_) (a' := ?_) (Bz 17 0x2f) rfl rfl (any_of HT_.out (by kernel_rfl)) (fun _ _ _ h => h) (Or.inl ⟨by rfl, ?_⟩) ?_ ?_
   rotate_left
   ·intro w'; go_simp; with_reducible rfl
   rotate_left; ·simp only [Act.put, Z1, Z2, Z3, i64_w, i32_w]; rfl
   refine pure_ (i := 6) (N := some 22) (v := ?_) (a' := ?_) (Bz 17 0x6f) rfl rfl (any_of HT_.out (by kernel_rfl)) (fun _ _ _ h => h) (Or.inl ⟨by rfl, ?_⟩) ?_ ?_
   rotate_left
   ·intro w'; go_simp; with_reducible rfl
   rotate_left; ·simp only [Act.put, Z1, Z2, Z3, i64_w, i32_w]; rfl
   refine pure_ (i := 7) (N := some 23) (v := ?_) (a' := ?_) (Bz 17 0xef) rfl rfl (any_of HT_.out (by kernel_rfl)) (fun _ _ _ h => h) (Or.inl ⟨by rfl, ?_⟩) ?_ ?_
   rotate_left
   ·intro w'; go_simp; with_reducible rfl
   rotate_left; ·simp only [Act.put, Z1, Z2, Z3, i64_w, i32_w]; rfl
   refine take_ (i := 4) (N := some 20) (v := ?_) (a' := ?_) (Bz 17 0xff) rfl rfl (take_ofW HT_.out HW_.out (by kernel_rfl)) (fun _ _ _ h => h) (Or.inl ⟨by rfl, ?_⟩) hHeld ?_ ?_
   rotate_left
   ·rintro w' ⟨s0, s1, s2⟩; go_simp; with_reducible rfl
   rotate_left; ·simp only [Act.put, Z1, Z2, Z3, i64_w, i32_w]; rfl
   refine take_ (i := 8) (N := some 24) (v := ?_) (a' := ?_) (Bz 17 0x1ff) rfl rfl (take_ofW HT_.out HW_.out (by kernel_rfl)) (fun _ _ _ h => h) (Or.inl ⟨by rfl, ?_⟩) hHeld ?_ ?_
   rotate_left
   ·rintro w' ⟨s0, s1, s2⟩; go_simp; with_reducible rfl
   rotate_left; ·simp only [Act.put, Z1, Z2, Z3, i64_w, i32_w]; rfl
   refine one_ (i := 9) (N := some 25) #[Y, Y, Y, Y, Y, Y, Y, Y, Y, Y, Yn, Yn, Yn, Yn, Yn, Yn, Yn] rfl rfl (one_of HT_.out (by kernel_rfl)) (by decide) (fun K hK => ?_)
   refine goesT_ Tryd.func61 (by kernel_rfl) rfl #[.string s0_0, .int .i64 s0_1] (by rfl) rfl rfl rfl (by (try simp only [List.map_toArray, List.map_cons, List.map_nil]); first | done | rfl | (simp only [List.length_drop, List.length_take]; rfl)) ?_
   with_reducible refine (codec_list.calls k s0_0 s0_1 t123 t124 true _ ?side99  A3.out).mono ?_
   (case side99 => first | exact HG.out | exact Glob.below HG.out (by repeat (first | (with_reducible first | exact HB.out | apply below_alloc | apply pw_below_drewN | apply below_drew1 | refine below_set ?_ (IsS102.ge HI0.out)) | exact HB.out)))
   rintro e w7 ⟨rfl, hb⟩
   refine ⟨_, rfl, ?_⟩
   have n0_ := Aside0.mk (IsS102.below (by repeat (first | (with_reducible first | exact HI0.out | apply IsS102.alloc | apply IsS102.drewN | apply IsS102.drew | apply IsS102.set_0 | apply IsS102.set_1 | apply IsS102.set_2) | exact HI0.out)) hb)
   have n1_ := Aside0.mk (KeepBut.trans (by repeat (first | (with_reducible first | exact HK.out | apply KeepBut.set_ | apply keep_drewN | apply keep_drew | apply keep_alloc) | exact HK.out)) (KeepBut.of_below hb g none) (.inl rfl))
   have n2_ := Aside0.mk (below_step (by repeat (first | (with_reducible first | exact HB.out | apply below_alloc | apply pw_below_drewN | apply below_drew1 | refine below_set ?_ (IsS102.ge HI0.out)) | exact HB.out)) hb)
   clear HI0
   clear HK
   clear HB
   have HI0 := n0_
   have HK := n1_
   have HB := n2_
   clear n0_ n1_ n2_
   (try clear hb)
   (try clear hb2)
   (try clear hk)
   (try clear hi)
   refine hK.out _ _ ⟨(blk_cell (Aside0.mk HI0.out.1).out 0).trans rfl, (blk_cell (Aside0.mk HI0.out.1).out 1).trans rfl, (blk_cell (Aside0.mk HI0.out.1).out 2).trans rfl⟩ (fun hHeld => ?_)
   clear hK K
   refine norm_ (a' := ?_) ?_ ?_
   rotate_left
   ·show Act.put _ (some 25) _ = _
    simp only [Act.put, Z1, Z2, Z3, i64_w, i32_w]
    rfl
   refine pure_ (i := 10) (N := some 15) (v := ?_) (a' := ?_) (Bz 17 0x7ff) rfl rfl (any_of HT_.out (by kernel_rfl)) (fun _ _ _ h => h) (Or.inl ⟨by rfl, ?_⟩) ?_ ?_
   rotate_left
   ·intro w'; go_simp; with_reducible rfl
   rotate_left; ·simp only [Act.put, Z1, Z2, Z3, i64_w, i32_w]; rfl
   refine pure_ (i := 11) (N := some 26) (v := ?_) (a' := ?_) (Bz 17 0xfff) rfl rfl (any_of HT_.out (by kernel_rfl)) (fun _ _ _ h => h) (Or.inl ⟨by rfl, ?_⟩) ?_ ?_
   rotate_left
   ·intro w'; go_simp; with_reducible rfl
   rotate_left; ·simp only [Act.put, Z1, Z2, Z3, i64_w, i32_w]; rfl
   refine pure_ (i := 12) (N := some 27) (v := ?_) (a' := ?_) (Bz 17 0x1fff) rfl rfl (any_of HT_.out (by kernel_rfl)) (fun _ _ _ h => h) (Or.inl ⟨by rfl, ?_⟩) ?_ ?_
   rotate_left
   ·intro w'; go_simp; with_reducible rfl
   rotate_left; ·simp only [Act.put, Z1, Z2, Z3, i64_w, i32_w]; rfl
   refine pure_ (i := 13) (N := some 28) (v := ?_) (a' := ?_) (Bz 17 0x3fff) rfl rfl (any_of HT_.out (by kernel_rfl)) (fun _ _ _ h => h) (Or.inl ⟨by rfl, ?_⟩) ?_ ?_
   rotate_left
   ·intro w'; go_simp; with_reducible rfl
   rotate_left; ·simp only [Act.put, Z1, Z2, Z3, i64_w, i32_w]; rfl
   refine pure_ (i := 14) (N := some 6) (v := ?_) (a' := ?_) (Bz 17 0x7fff) rfl rfl (any_of HT_.out (by kernel_rfl)) (fun _ _ _ h => h) (Or.inl ⟨by rfl, ?_⟩) ?_ ?_
   rotate_left
   ·intro w'; go_simp; with_reducible rfl
   rotate_left; ·simp only [Act.put, Z1, Z2, Z3, i64_w, i32_w]; rfl
   refine pure_ (i := 15) (N := some 7) (v := ?_) (a' := ?_) (Bz 17 0xffff) rfl rfl (any_of HT_.out (by kernel_rfl)) (fun _ _ _ h => h) (Or.inl ⟨by rfl, ?_⟩) ?_ ?_
   rotate_left
   ·intro w'; go_simp; with_reducible rfl
   rotate_left; ·simp only [Act.put, Z1, Z2, Z3, i64_w, i32_w]; rfl
   refine pure_ (i := 16) (N := some 8) (v := ?_) (a' := ?_) (Bz 17 0x1ffff) rfl rfl (any_of HT_.out (by kernel_rfl)) (fun _ _ _ h => h) (Or.inl ⟨by rfl, ?_⟩) ?_ ?_
   rotate_left
   ·intro w'; go_simp; with_reducible rfl
   rotate_left; ·simp only [Act.put, Z1, Z2, Z3, i64_w, i32_w]; rfl
   refine done_ (done_of HT_.out (by kernel_rfl)) ?_
   obtain ⟨HGz8, hgz8⟩ := HI0.out
   have hcz8_0 := cellS102_0 HGz8
   have hcz8_1 := cellS102_1 HGz8
   have hcz8_2 := cellS102_2 HGz8
   have hfz8_0 := blk_frozen HGz8 0
   have hfz8_1 := blk_frozen HGz8 1
   have hfz8_2 := blk_frozen HGz8 2
   clear HGz8 hgz8
   try go_wp2_with (first | (go_at_call 60; go_in) | ((try simp only [Exit.inBlock, Exit.then]); refine bodyPost_end (results_none rfl _ _ _) rfl ?_; simp only []; go_at_K))
   go_ret
   exact ⟨by first | rfl | (simp [errW_none, errW_some] <;> rfl) | (simp [*, errW_none, errW_some] <;> rfl), by repeat (first | (with_reducible first | exact HI0.out | apply IsS102.alloc | apply IsS102.drewN | apply IsS102.drew | apply IsS102.set_0 | apply IsS102.set_1 | apply IsS102.set_2) | exact HI0.out), by repeat (first | (with_reducible first | exact HB.out | apply below_alloc | apply pw_below_drewN | apply below_drew1 | refine below_set ?_ (IsS102.ge HI0.out)) | exact HB.out), by repeat (first | (with_reducible first | exact HK.out | apply KeepBut.set_ | apply keep_drewN | apply keep_drew | apply keep_alloc) | exact HK.out)⟩
  ·replace c4 := Bool.eq_false_iff.mpr c4
   subst c4
   have H1 : (some (0, s0_0, s0_1, 2)) = some (r1, r2, r3, r4) := by rw [if_neg (show ¬ (false = true) by decide)] at H; exact H
   clear H
   have H := H1
   clear H1
   simp only [Option.some.injEq, Prod.mk.injEq] at H
   obtain ⟨rfl, rfl, rfl, rfl⟩ := H
   obtain ⟨HGz9, hgz9⟩ := HI0.out
   have hcz9_0 := cellS102_0 HGz9
   have hcz9_1 := cellS102_1 HGz9
   have hcz9_2 := cellS102_2 HGz9
   have hfz9_0 := blk_frozen HGz9 0
   have hfz9_1 := blk_frozen HGz9 1
   have hfz9_2 := blk_frozen HGz9 2
   clear HGz9 hgz9
   go_enter Tryd.func37, Tryd.ntmps37
   try go_wp2_with (first | (go_at_call 60; go_in) | ((try simp only [Exit.inBlock, Exit.then]); refine bodyPost_end (results_none rfl _ _ _) rfl ?_; simp only []; go_at_K))
   have n0_ := Aside0.mk (IsS102.drew HI0.out)
   have n1_ := Aside0.mk (keep_drew HK.out)
   have n2_ := Aside0.mk (below_drew1 HB.out)
   clear HI0
   clear HK
   clear HB
   have HI0 := n0_
   have HK := n1_
   have HB := n2_
   clear n0_ n1_ n2_
   refine start_ (n := 17) (S := fun w' => w'.cell? ⟨g, 0, none⟩ = some (.string s0_0) ∧ w'.cell? ⟨g, 1, none⟩ = some (.int .i64 s0_1) ∧ w'.cell? ⟨g, 2, none⟩ = some (.int .i64 s0_2)) (ds := []) #[Yn, Yn, Yn, Yn, Yn, Yn, Yn, Yn, Yn, Yn, Yn, Yn, Yn, Yn, Yn, Yn, Yn] (by kernel_rfl) rfl rfl ⟨(blk_cell (Aside0.mk HI0.out.1).out 0).trans rfl, (blk_cell (Aside0.mk HI0.out.1).out 1).trans rfl, (blk_cell (Aside0.mk HI0.out.1).out 2).trans rfl⟩ (fun hHeld => ?_); refine with_tabW codec_Reader_List.tab60004 codec_Reader_List.bits60004 (fun HT_ HW_ => ?_)
   generalize w.drew = w10 at HI0 HK HB hHeld ⊢
   refine pure_ (i := 0) (N := some 16) (v := ?_) (a' := ?_) (Bz 17 0x1) rfl rfl (any_of HT_.out (by kernel_rfl)) (fun _ _ _ h => h) (Or.inl ⟨by rfl, ?_⟩) ?_ ?_
   rotate_left
   ·intro w'; go_simp; with_reducible rfl
   rotate_left; ·simp only [Act.put, Z1, Z2, Z3, i64_w, i32_w]; rfl
   refine pure_ (i := 1) (N := some 17) (v := ?_) (a' := ?_) (Bz 17 0x3) rfl rfl (any_of HT_.out (by kernel_rfl)) (fun _ _ _ h => h) (Or.inl ⟨by rfl, ?_⟩) ?_ ?_
   rotate_left
   ·intro w'; go_simp; with_reducible rfl
   rotate_left; ·simp only [Act.put, Z1, Z2, Z3, i64_w, i32_w]; rfl
   refine pure_ (i := 2) (N := some 18) (v := ?_) (a' := ?_) (Bz 17 0x7) rfl rfl (any_of HT_.out (by kernel_rfl)) (fun _ _ _ h => h) (Or.inl ⟨by rfl, ?_⟩) ?_ ?_
   rotate_left
   ·intro w'; go_simp; with_reducible rfl
   rotate_left; ·simp only [Act.put, Z1, Z2, Z3, i64_w, i32_w]; rfl
   refine pure_ (i := 3) (N := some 19) (v := ?_) (a' := ?_) (Bz 17 0xf) rfl rfl (any_of HT_.out (by kernel_rfl)) (fun _ _ _ h => h) (Or.inl ⟨by rfl, ?_⟩) ?_ ?_
   rotate_left
   ·intro w'; go_simp; with_reducible rfl
   rotate_left; ·simp only [Act.put, Z1, Z2, Z3, i64_w, i32_w]; rfl
   refine pure_ (i := 5) (N := some 21) (v := ?_) (a' := ?_) (Bz 17 0x2f) rfl rfl (any_of HT_.out (by kernel_rfl)) (fun _ _ _ h => h) (Or.inl ⟨by rfl, ?_⟩) ?_ ?_
   rotate_left
   ·intro w'; go_simp; with_reducible rfl
   rotate_left; ·simp only [Act.put, Z1, Z2, Z3, i64_w, i32_w]; rfl
   refine pure_ (i := 6) (N := some 22) (v := ?_) (a' := ?_) (Bz 17 0x6f) rfl rfl (any_of HT_.out (by kernel_rfl)) (fun _ _ _ h => h) (Or.inl ⟨by rfl, ?_⟩) ?_ ?_
   rotate_left
   ·intro w'; go_simp; with_reducible rfl
   rotate_left; ·simp only [Act.put, Z1, Z2, Z3, i64_w, i32_w]; rfl
   refine pure_ (i := 7) (N := some 23) (v := ?_) (a' := ?_) (Bz 17 0xef) rfl rfl (any_of HT_.out (by kernel_rfl)) (fun _ _ _ h => h) (Or.inl ⟨by rfl, ?_⟩) ?_ ?_
   rotate_left
   ·intro w'; go_simp; with_reducible rfl
   rotate_left; ·simp only [Act.put, Z1, Z2, Z3, i64_w, i32_w]; rfl
   refine take_ (i := 4) (N := some 20) (v := ?_) (a' := ?_) (Bz 17 0xff) rfl rfl (take_ofW HT_.out HW_.out (by kernel_rfl)) (fun _ _ _ h => h) (Or.inl ⟨by rfl, ?_⟩) hHeld ?_ ?_
   rotate_left
   ·rintro w' ⟨s0, s1, s2⟩; go_simp; with_reducible rfl
   rotate_left; ·simp only [Act.put, Z1, Z2, Z3, i64_w, i32_w]; rfl
   refine take_ (i := 8) (N := some 24) (v := ?_) (a' := ?_) (Bz 17 0x1ff) rfl rfl (take_ofW HT_.out HW_.out (by kernel_rfl)) (fun _ _ _ h => h) (Or.inl ⟨by rfl, ?_⟩) hHeld ?_ ?_
   rotate_left
   ·rintro w' ⟨s0, s1, s2⟩; go_simp; with_reducible rfl
   rotate_left; ·simp only [Act.put, Z1, Z2, Z3, i64_w, i32_w]; rfl
   refine one_ (i := 9) (N := some 25) #[Y, Y, Y, Y, Y, Y, Y, Y, Y, Y, Yn, Yn, Yn, Yn, Yn, Yn, Yn] rfl rfl (one_of HT_.out (by kernel_rfl)) (by decide) (fun K hK => ?_)
   refine goesT_ Tryd.func61 (by kernel_rfl) rfl #[.string s0_0, .int .i64 s0_1] (by rfl) rfl rfl rfl (by (try simp only [List.map_toArray, List.map_cons, List.map_nil]); first | done | rfl | (simp only [List.length_drop, List.length_take]; rfl)) ?_
   with_reducible refine (codec_list.calls k s0_0 s0_1 t123 t124 false _ ?side99  A3.out).mono ?_
   (case side99 => first | exact HG.out | exact Glob.below HG.out (by repeat (first | (with_reducible first | exact HB.out | apply below_alloc | apply pw_below_drewN | apply below_drew1 | refine below_set ?_ (IsS102.ge HI0.out)) | exact HB.out)))
   rintro e w11 ⟨rfl, hb⟩
   refine ⟨_, rfl, ?_⟩
   have n0_ := Aside0.mk (IsS102.below (by repeat (first | (with_reducible first | exact HI0.out | apply IsS102.alloc | apply IsS102.drewN | apply IsS102.drew | apply IsS102.set_0 | apply IsS102.set_1 | apply IsS102.set_2) | exact HI0.out)) hb)
   have n1_ := Aside0.mk (KeepBut.trans (by repeat (first | (with_reducible first | exact HK.out | apply KeepBut.set_ | apply keep_drewN | apply keep_drew | apply keep_alloc) | exact HK.out)) (KeepBut.of_below hb g none) (.inl rfl))
   have n2_ := Aside0.mk (below_step (by repeat (first | (with_reducible first | exact HB.out | apply below_alloc | apply pw_below_drewN | apply below_drew1 | refine below_set ?_ (IsS102.ge HI0.out)) | exact HB.out)) hb)
   clear HI0
   clear HK
   clear HB
   have HI0 := n0_
   have HK := n1_
   have HB := n2_
   clear n0_ n1_ n2_
   (try clear hb)
   (try clear hb2)
   (try clear hk)
   (try clear hi)
   refine hK.out _ _ ⟨(blk_cell (Aside0.mk HI0.out.1).out 0).trans rfl, (blk_cell (Aside0.mk HI0.out.1).out 1).trans rfl, (blk_cell (Aside0.mk HI0.out.1).out 2).trans rfl⟩ (fun hHeld => ?_)
   clear hK K
   refine norm_ (a' := ?_) ?_ ?_
   rotate_left
   ·show Act.put _ (some 25) _ = _
    simp only [Act.put, Z1, Z2, Z3, i64_w, i32_w]
    rfl
   refine pure_ (i := 10) (N := some 15) (v := ?_) (a' := ?_) (Bz 17 0x7ff) rfl rfl (any_of HT_.out (by kernel_rfl)) (fun _ _ _ h => h) (Or.inl ⟨by rfl, ?_⟩) ?_ ?_
   rotate_left
   ·intro w'; go_simp; with_reducible rfl
   rotate_left; ·simp only [Act.put, Z1, Z2, Z3, i64_w, i32_w]; rfl
   refine pure_ (i := 11) (N := some 26) (v := ?_) (a' := ?_) (Bz 17 0xfff) rfl rfl (any_of HT_.out (by kernel_rfl)) (fun _ _ _ h => h) (Or.inl ⟨by rfl, ?_⟩) ?_ ?_
   rotate_left
   ·intro w'; go_simp; with_reducible rfl
   rotate_left; ·simp only [Act.put, Z1, Z2, Z3, i64_w, i32_w]; rfl
   refine pure_ (i := 12) (N := some 27) (v := ?_) (a' := ?_) (Bz 17 0x1fff) rfl rfl (any_of HT_.out (by kernel_rfl)) (fun _ _ _ h => h) (Or.inl ⟨by rfl, ?_⟩) ?_ ?_
   rotate_left
   ·intro w'; go_simp; with_reducible rfl
   rotate_left; ·simp only [Act.put, Z1, Z2, Z3, i64_w, i32_w]; rfl
   refine pure_ (i := 13) (N := some 28) (v := ?_) (a' := ?_) (Bz 17 0x3fff) rfl rfl (any_of HT_.out (by kernel_rfl)) (fun _ _ _ h => h) (Or.inl ⟨by rfl, ?_⟩) ?_ ?_
   rotate_left
   ·intro w'; go_simp; with_reducible rfl
   rotate_left; ·simp only [Act.put, Z1, Z2, Z3, i64_w, i32_w]; rfl
   refine pure_ (i := 14) (N := some 6) (v := ?_) (a' := ?_) (Bz 17 0x7fff) rfl rfl (any_of HT_.out (by kernel_rfl)) (fun _ _ _ h => h) (Or.inl ⟨by rfl, ?_⟩) ?_ ?_
   rotate_left
   ·intro w'; go_simp; with_reducible rfl
   rotate_left; ·simp only [Act.put, Z1, Z2, Z3, i64_w, i32_w]; rfl
   refine pure_ (i := 15) (N := some 7) (v := ?_) (a' := ?_) (Bz 17 0xffff) rfl rfl (any_of HT_.out (by kernel_rfl)) (fun _ _ _ h => h) (Or.inl ⟨by rfl, ?_⟩) ?_ ?_
   rotate_left
   ·intro w'; go_simp; with_reducible rfl
   rotate_left; ·simp only [Act.put, Z1, Z2, Z3, i64_w, i32_w]; rfl
   refine pure_ (i := 16) (N := some 8) (v := ?_) (a' := ?_) (Bz 17 0x1ffff) rfl rfl (any_of HT_.out (by kernel_rfl)) (fun _ _ _ h => h) (Or.inl ⟨by rfl, ?_⟩) ?_ ?_
   rotate_left
   ·intro w'; go_simp; with_reducible rfl
   rotate_left; ·simp only [Act.put, Z1, Z2, Z3, i64_w, i32_w]; rfl
   refine done_ (done_of HT_.out (by kernel_rfl)) ?_
   obtain ⟨HGz12, hgz12⟩ := HI0.out
   have hcz12_0 := cellS102_0 HGz12
   have hcz12_1 := cellS102_1 HGz12
   have hcz12_2 := cellS102_2 HGz12
   have hfz12_0 := blk_frozen HGz12 0
   have hfz12_1 := blk_frozen HGz12 1
   have hfz12_2 := blk_frozen HGz12 2
   clear HGz12 hgz12
   try go_wp2_with (first | (go_at_call 60; go_in) | ((try simp only [Exit.inBlock, Exit.then]); refine bodyPost_end (results_none rfl _ _ _) rfl ?_; simp only []; go_at_K))
   go_ret
   exact ⟨by first | rfl | (simp [errW_none, errW_some] <;> rfl) | (simp [*, errW_none, errW_some] <;> rfl), by repeat (first | (with_reducible first | exact HI0.out | apply IsS102.alloc | apply IsS102.drewN | apply IsS102.drew | apply IsS102.set_0 | apply IsS102.set_1 | apply IsS102.set_2) | exact HI0.out), by repeat (first | (with_reducible first | exact HB.out | apply below_alloc | apply pw_below_drewN | apply below_drew1 | refine below_set ?_ (IsS102.ge HI0.out)) | exact HB.out), by repeat (first | (with_reducible first | exact HK.out | apply KeepBut.set_ | apply keep_drewN | apply keep_drew | apply keep_alloc) | exact HK.out)⟩
 ·rw [if_neg c2] at H
  have c2b0 : (s0_2 == 0) = false := beq_eq_false_iff_ne.mpr c2
  have c2b1 : (s0_2 != 0) = true := bne_iff_ne.mpr c2
  simp only [Option.some.injEq, Prod.mk.injEq] at H
  obtain ⟨rfl, rfl, rfl, rfl⟩ := H
  obtain ⟨HGz13, hgz13⟩ := HI0.out
  have hcz13_0 := cellS102_0 HGz13
  have hcz13_1 := cellS102_1 HGz13
  have hcz13_2 := cellS102_2 HGz13
  have hfz13_0 := blk_frozen HGz13 0
  have hfz13_1 := blk_frozen HGz13 1
  have hfz13_2 := blk_frozen HGz13 2
  clear HGz13 hgz13
  go_enter Tryd.func37, Tryd.ntmps37
  go_wp2_with (first | (go_at_call 60; go_in) | ((try simp only [Exit.inBlock, Exit.then]); refine bodyPost_end (results_none rfl _ _ _) rfl ?_; simp only []; go_at_K))
  go_ret
  exact ⟨by first | rfl | (simp [errW_none, errW_some] <;> rfl) | (simp [*, errW_none, errW_some] <;> rfl), by repeat (first | (with_reducible first | exact HI0.out | apply IsS102.alloc | apply IsS102.drewN | apply IsS102.drew | apply IsS102.set_0 | apply IsS102.set_1 | apply IsS102.set_2) | exact HI0.out), by repeat (first | (with_reducible first | exact HB.out | apply below_alloc | apply pw_below_drewN | apply below_drew1 | refine below_set ?_ (IsS102.ge HI0.out)) | exact HB.out), by repeat (first | (with_reducible first | exact HK.out | apply KeepBut.set_ | apply keep_drewN | apply keep_drew | apply keep_alloc) | exact HK.out)⟩
end Go.Proofs.YtbccjcdmpiolpaaDoor.T
end
section
namespace Go.Proofs.YtbccjcdmpiolpaaDoor.T
open Go.RowKit Go.Proofs.YtbccjcdmpiolpaaDoorW.PrintWords Go.Proofs.YtbccjcdmpiolpaaDoorW.PrintLast Go.Proofs.YtbccjcdmpiolpaaDoorW.PrintMore
attribute [local go_sem] max2_int min2_int max_two min_two max_three min_three max_four min_four
set_option linter.unusedVariables false
set_option linter.unusedSimpArgs false
def codec_Reader_Text.f (k : Nat) (s0_0 : ByteArray) (s0_1 : Int) (s0_2 : Int) : Option (ByteArray × ByteArray × Int × Int) := if s0_2 = 0 then ((codec_text.f k s0_0 s0_1).bind fun bt130 => (if bt130.2.2 = true then (some (bt130.1, s0_0, bt130.2.1, s0_2)) else (some ((⟨#[]⟩ : ByteArray), s0_0, s0_1, 2)))) else (some ((⟨#[]⟩ : ByteArray), s0_0, s0_1, s0_2))
def codec_Reader_Text.T57004 : Bool × List (List Nat × List Nat) := (true, [([], []), ([], []), ([1], [1]), ([2], [2]), ([3], [3]), ([], []), ([5], [5]), ([6], [6]), ([7], [7]), ([0, 4, 8], [0, 4, 8]), ([9], [9]), ([10], [10]), ([10], [10]), ([10], [10]), ([11, 9, 0, 1, 2, 3, 4, 5, 6, 7, 8, 9, 10, 11], [11]), ([12, 14, 0, 1, 2, 3, 4, 5, 6, 7, 8, 9, 10, 11, 12, 14], [12]), ([13, 15, 0, 1, 2, 3, 4, 5, 6, 7, 8, 9, 10, 11, 12, 13, 14, 15], [13])])
def codec_Reader_Text.B57004 : List Nat := [0, 0, 2, 6, 14, 0, 32, 96, 224, 511, 1023, 2047, 2047, 2047, 4095, 24575, 65535]
theorem codec_Reader_Text.tab57004 : rtab .any (opsOf Tryd.f57 4) = codec_Reader_Text.T57004 := by kernel_rfl
theorem codec_Reader_Text.bits57004 : waitsOk codec_Reader_Text.T57004.2 codec_Reader_Text.B57004 = true := by kernel_rfl
set_option maxHeartbeats 8000000 in
set_option maxRecDepth 100000 in
theorem codec_Reader_Text.calls (k : Nat) (g : Nat) (s0_0 : ByteArray) (s0_1 : Int) (s0_2 : Int) (r1 : ByteArray) (r2 : ByteArray) (r3 : Int) (r4 : Int) (w0 w : World) (hG : Glob w0) (hI : IsS102 w0 w g s0_0 s0_1 s0_2) (hB : Below w0.heap.size w0 w) (h : codec_Reader_Text.f k s0_0 s0_1 s0_2 = some (r1, r2, r3, r4)) :
  Calls Tryd.prog 33 #[.pointer (some ⟨g, 0, none⟩)] w fun e w' => e = .returned (.string r1) ∧ IsS102 w0 w' g r2 r3 r4 ∧ Below w0.heap.size w0 w' ∧ KeepBut w w' g none := by
 have hmf_ : ∀ (fn : Fn) (first cap : Array Value) (w : World), (Instr.makeFunc fn first cap).run Tryd.prog w = .ok (.func fn first cap) w := fun _ _ _ _ => rfl
 have HG := Aside0.mk hG
 clear hG
 have HI0 := Aside0.mk hI
 have HK := Aside0.mk (KeepBut.refl w g none)
 have HL := Aside0.mk hB.size
 clear hI
 have HW0 := Aside0.mk hB.size
 have HB := Aside0.mk hB
 clear hB
 have H : (if s0_2 = 0 then ((codec_text.f k s0_0 s0_1).bind fun bt130 => (if bt130.2.2 = true then (some (bt130.1, s0_0, bt130.2.1, s0_2)) else (some ((⟨#[]⟩ : ByteArray), s0_0, s0_1, 2)))) else (some ((⟨#[]⟩ : ByteArray), s0_0, s0_1, s0_2))) = some (r1, r2, r3, r4) := h
 clear h
 by_cases c2 : s0_2 = 0
 ·rw [if_pos c2] at H
  have c2b0 : (s0_2 == 0) = true := beq_iff_eq.mpr c2
  have c2b1 : (s0_2 != 0) = false := bne_eq_false_iff_eq.mpr c2
  clear c2
  replace H := Option.bind_eq_some_iff.mp H
  obtain ⟨⟨t130, t131, t132⟩, A30, H⟩ := H
  replace H : (if t132 = true then (some (t130, s0_0, t131, s0_2)) else (some ((⟨#[]⟩ : ByteArray), s0_0, s0_1, 2))) = some (r1, r2, r3, r4) := H
  have A3 := Aside0.mk A30
  clear A30
  by_cases c4 : t132 = true
  ·subst c4
   have H1 : (some (t130, s0_0, t131, s0_2)) = some (r1, r2, r3, r4) := by rw [if_pos rfl] at H; exact H
   clear H
   have H := H1
   clear H1
   simp only [Option.some.injEq, Prod.mk.injEq] at H
   obtain ⟨rfl, rfl, rfl, rfl⟩ := H
   obtain ⟨HGz5, hgz5⟩ := HI0.out
   have hcz5_0 := cellS102_0 HGz5
   have hcz5_1 := cellS102_1 HGz5
   have hcz5_2 := cellS102_2 HGz5
   have hfz5_0 := blk_frozen HGz5 0
   have hfz5_1 := blk_frozen HGz5 1
   have hfz5_2 := blk_frozen HGz5 2
   clear HGz5 hgz5
   go_enter Tryd.func33, Tryd.ntmps33
   try go_wp2_with (first | (go_at_call 57; go_in) | ((try simp only [Exit.inBlock, Exit.then]); refine bodyPost_end (results_none rfl _ _ _) rfl ?_; simp only []; go_at_K))
   have n0_ := Aside0.mk (IsS102.drew HI0.out)
   have n1_ := Aside0.mk (keep_drew HK.out)
   have n2_ := Aside0.mk (below_drew1 HB.out)
   clear HI0
   clear HK
   clear HB
   have HI0 := n0_
   have HK := n1_
   have HB := n2_
   clear n0_ n1_ n2_
   refine start_ (n := 17) (S := fun w' => w'.cell? ⟨g, 0, none⟩ = some (.string s0_0) ∧ w'.cell? ⟨g, 1, none⟩ = some (.int .i64 s0_1) ∧ w'.cell? ⟨g, 2, none⟩ = some (.int .i64 s0_2)) (ds := []) #[Yn, Yn, Yn, Yn, Yn, Yn, Yn, Yn, Yn, Yn, Yn, Yn, Yn, Yn, Yn, Yn, Yn] (by kernel_rfl) rfl rfl ⟨(blk_cell (Aside0.mk HI0.out.1).out 0).trans rfl, (blk_cell (Aside0.mk HI0.out.1).out 1).trans rfl, (blk_cell (Aside0.mk HI0.out.1).out 2).trans rfl⟩ (fun hHeld => ?_); refine with_tabW codec_Reader_Text.tab57004 codec_Reader_Text.bits57004 (fun HT_ HW_ => ?_)
   generalize w.drew = w6 at HI0 HK HB hHeld ⊢
   refine pure_ (i := 0) (N := some 16) (v := ?_) (a' := ?_) (Bz 17 0x1) rfl rfl (any_of HT_.out (by kernel_rfl)) (fun _ _ _ h => h) (Or.inl ⟨by rfl, ?_⟩) ?_ ?_
   rotate_left
   ·intro w'; go_simp; with_reducible rfl
   rotate_left; ·simp only [Act.put, Z1, Z2, Z3, i64_w, i32_w]; rfl
   refine pure_ (i := 1) (N := some 17) (v := ?_) (a' := ?_) (Bz 17 0x3) rfl rfl (any_of HT_.out (by kernel_rfl)) (fun _ _ _ h => h) (Or.inl ⟨by rfl, ?_⟩) ?_ ?_
   rotate_left
   ·intro w'; go_simp; with_reducible rfl
   rotate_left; ·simp only [Act.put, Z1, Z2, Z3, i64_w, i32_w]; rfl
   refine pure_ (i := 2) (N := some 18) (v := ?_) (a' := ?_) (Bz 17 0x7) rfl rfl (any_of HT_.out (by kernel_rfl)) (fun _ _ _ h => h) (Or.inl ⟨by rfl, ?_⟩) ?_ ?_
   rotate_left
   ·intro w'; go_simp; with_reducible rfl
   rotate_left; ·simp only [Act.put, Z1, Z2, Z3, i64_w, i32_w]; rfl
   refine pure_ (i := 3) (N := some 19) (v := ?_) (a' := ?_) (Bz 17 0xf) rfl rfl (any_of HT_.out (by kernel_rfl)) (fun _ _ _ h => h) (Or.inl ⟨by rfl, ?_⟩) ?_ ?_
   rotate_left
   ·intro w'; go_simp; with_reducible rfl
   rotate_left; ·simp only [Act.put, Z1, Z2, Z3, i64_w, i32_w]; rfl
   refine pure_ (i := 5) (N := some 21) (v := ?_) (a' := ?_) (Bz 17 0x2f) rfl rfl (any_of HT_.out (by kernel_rfl)) (fun _ _ _ h => h) (Or.inl ⟨by rfl, ?_⟩) ?_ ?_
   rotate_left
   ·intro w'; go_simp; with_reducible rfl
   rotate_left; ·simp only [Act.put, Z1, Z2, Z3, i64_w, i32_w]; rfl
   refine pure_ (i := 6) (N := some 22) (v := ?_) (a' := ?_) (Bz 17 0x6f) rfl rfl (any_of HT_.out (by kernel_rfl)) (fun _ _ _ h => h) (Or.inl ⟨by rfl, ?_⟩) ?_ ?_
   rotate_left
   ·intro w'; go_simp; with_reducible rfl
   rotate_left; ·simp only [Act.put, Z1, Z2, Z3, i64_w, i32_w]; rfl
   refine pure_ (i := 7) (N := some 23) (v := ?_) (a' := ?_) (Bz 17 0xef) rfl rfl (any_of HT_.out (by kernel_rfl)) (fun _ _ _ h => h) (Or.inl ⟨by rfl, ?_⟩) ?_ ?_
   rotate_left
   ·intro w'; go_simp; with_reducible rfl
   rotate_left; ·simp only [Act.put, Z1, Z2, Z3, i64_w, i32_w]; rfl
   refine take_ (i := 4) (N := some 20) (v := ?_) (a' := ?_) (Bz 17 0xff) rfl rfl (take_ofW HT_.out HW_.out (by kernel_rfl)) (fun _ _ _ h => h) (Or.inl ⟨by rfl, ?_⟩) hHeld ?_ ?_
   rotate_left
   ·rintro w' ⟨s0, s1, s2⟩; go_simp; with_reducible rfl
   rotate_left; ·simp only [Act.put, Z1, Z2, Z3, i64_w, i32_w]; rfl
   refine take_ (i := 8) (N := some 24) (v := ?_) (a' := ?_) (Bz 17 0x1ff) rfl rfl (take_ofW HT_.out HW_.out (by kernel_rfl)) (fun _ _ _ h => h) (Or.inl ⟨by rfl, ?_⟩) hHeld ?_ ?_
   rotate_left
   ·rintro w' ⟨s0, s1, s2⟩; go_simp; with_reducible rfl
   rotate_left; ·simp only [Act.put, Z1, Z2, Z3, i64_w, i32_w]; rfl
   refine one_ (i := 9) (N := some 25) #[Y, Y, Y, Y, Y, Y, Y, Y, Y, Y, Yn, Yn, Yn, Yn, Yn, Yn, Yn] rfl rfl (one_of HT_.out (by kernel_rfl)) (by decide) (fun K hK => ?_)
   refine goesT_ Tryd.func58 (by kernel_rfl) rfl #[.string s0_0, .int .i64 s0_1] (by rfl) rfl rfl rfl (by (try simp only [List.map_toArray, List.map_cons, List.map_nil]); first | done | rfl | (simp only [List.length_drop, List.length_take]; rfl)) ?_
   with_reducible refine (codec_text.calls k s0_0 s0_1 t130 t131 true _ ?side99  A3.out).mono ?_
   (case side99 => first | exact HG.out | exact Glob.below HG.out (by repeat (first | (with_reducible first | exact HB.out | apply below_alloc | apply pw_below_drewN | apply below_drew1 | refine below_set ?_ (IsS102.ge HI0.out)) | exact HB.out)))
   rintro e w7 ⟨rfl, hb⟩
   refine ⟨_, rfl, ?_⟩
   have n0_ := Aside0.mk (IsS102.below (by repeat (first | (with_reducible first | exact HI0.out | apply IsS102.alloc | apply IsS102.drewN | apply IsS102.drew | apply IsS102.set_0 | apply IsS102.set_1 | apply IsS102.set_2) | exact HI0.out)) hb)
   have n1_ := Aside0.mk (KeepBut.trans (by repeat (first | (with_reducible first | exact HK.out | apply KeepBut.set_ | apply keep_drewN | apply keep_drew | apply keep_alloc) | exact HK.out)) (KeepBut.of_below hb g none) (.inl rfl))
   have n2_ := Aside0.mk (below_step (by repeat (first | (with_reducible first | exact HB.out | apply below_alloc | apply pw_below_drewN | apply below_drew1 | refine below_set ?_ (IsS102.ge HI0.out)) | exact HB.out)) hb)
   clear HI0
   clear HK
   clear HB
   have HI0 := n0_
   have HK := n1_
   have HB := n2_
   clear n0_ n1_ n2_
   (try clear hb)
   (try clear hb2)
   (try clear hk)
   (try clear hi)
   refine hK.out _ _ ⟨(blk_cell (Aside0.mk HI0.out.1).out 0).trans rfl, (blk_cell (Aside0.mk HI0.out.1).out 1).trans rfl, (blk_cell (Aside0.mk HI0.out.1).out 2).trans rfl⟩ (fun hHeld => ?_)
   clear hK K
   refine norm_ (a' := ?_) ?_ ?_
   rotate_left
   ·show Act.put _ (some 25) _ = _
    simp only [Act.put, Z1, Z2, Z3, i64_w, i32_w]
    rfl
   refine pure_ (i := 10) (N := some 15) (v := ?_) (a' := ?_) (Bz 17 0x7ff) rfl rfl (any_of HT_.out (by kernel_rfl)) (fun _ _ _ h => h) (Or.inl ⟨by rfl, ?_⟩) ?_ ?_
   rotate_left
   ·intro w'; go_simp; with_reducible rfl
   rotate_left; ·simp only [Act.put, Z1, Z2, Z3, i64_w, i32_w]; rfl
   refine pure_ (i := 11) (N := some 26) (v := ?_) (a' := ?_) (Bz 17 0xfff) rfl rfl (any_of HT_.out (by kernel_rfl)) (fun _ _ _ h => h) (Or.inl ⟨by rfl, ?_⟩) ?_ ?_
   rotate_left
   ·intro w'; go_simp; with_reducible rfl
   rotate_left; ·simp only [Act.put, Z1, Z2, Z3, i64_w, i32_w]; rfl
   refine pure_ (i := 12) (N := some 27) (v := ?_) (a' := ?_) (Bz 17 0x1fff) rfl rfl (any_of HT_.out (by kernel_rfl)) (fun _ _ _ h => h) (Or.inl ⟨by rfl, ?_⟩) ?_ ?_
   rotate_left
   ·intro w'; go_simp; with_reducible rfl
   rotate_left; ·simp only [Act.put, Z1, Z2, Z3, i64_w, i32_w]; rfl
   refine pure_ (i := 13) (N := some 28) (v := ?_) (a' := ?_) (Bz 17 0x3fff) rfl rfl (any_of HT_.out (by kernel_rfl)) (fun _ _ _ h => h) (Or.inl ⟨by rfl, ?_⟩) ?_ ?_
   rotate_left
   ·intro w'; go_simp; with_reducible rfl
   rotate_left; ·simp only [Act.put, Z1, Z2, Z3, i64_w, i32_w]; rfl
   refine pure_ (i := 14) (N := some 6) (v := ?_) (a' := ?_) (Bz 17 0x7fff) rfl rfl (any_of HT_.out (by kernel_rfl)) (fun _ _ _ h => h) (Or.inl ⟨by rfl, ?_⟩) ?_ ?_
   rotate_left
   ·intro w'; go_simp; with_reducible rfl
   rotate_left; ·simp only [Act.put, Z1, Z2, Z3, i64_w, i32_w]; rfl
   refine pure_ (i := 15) (N := some 7) (v := ?_) (a' := ?_) (Bz 17 0xffff) rfl rfl (any_of HT_.out (by kernel_rfl)) (fun _ _ _ h => h) (Or.inl ⟨by rfl, ?_⟩) ?_ ?_
   rotate_left
   ·intro w'; go_simp; with_reducible rfl
   rotate_left; ·simp only [Act.put, Z1, Z2, Z3, i64_w, i32_w]; rfl
   refine pure_ (i := 16) (N := some 8) (v := ?_) (a' := ?_) (Bz 17 0x1ffff) rfl rfl (any_of HT_.out (by kernel_rfl)) (fun _ _ _ h => h) (Or.inl ⟨by rfl, ?_⟩) ?_ ?_
   rotate_left
   ·intro w'; go_simp; with_reducible rfl
   rotate_left; ·simp only [Act.put, Z1, Z2, Z3, i64_w, i32_w]; rfl
   refine done_ (done_of HT_.out (by kernel_rfl)) ?_
   obtain ⟨HGz8, hgz8⟩ := HI0.out
   have hcz8_0 := cellS102_0 HGz8
   have hcz8_1 := cellS102_1 HGz8
   have hcz8_2 := cellS102_2 HGz8
   have hfz8_0 := blk_frozen HGz8 0
   have hfz8_1 := blk_frozen HGz8 1
   have hfz8_2 := blk_frozen HGz8 2
   clear HGz8 hgz8
   try go_wp2_with (first | (go_at_call 57; go_in) | ((try simp only [Exit.inBlock, Exit.then]); refine bodyPost_end (results_none rfl _ _ _) rfl ?_; simp only []; go_at_K))
   go_ret
   exact ⟨by first | rfl | (simp [errW_none, errW_some] <;> rfl) | (simp [*, errW_none, errW_some] <;> rfl), by repeat (first | (with_reducible first | exact HI0.out | apply IsS102.alloc | apply IsS102.drewN | apply IsS102.drew | apply IsS102.set_0 | apply IsS102.set_1 | apply IsS102.set_2) | exact HI0.out), by repeat (first | (with_reducible first | exact HB.out | apply below_alloc | apply pw_below_drewN | apply below_drew1 | refine below_set ?_ (IsS102.ge HI0.out)) | exact HB.out), by repeat (first | (with_reducible first | exact HK.out | apply KeepBut.set_ | apply keep_drewN | apply keep_drew | apply keep_alloc) | exact HK.out)⟩
  ·replace c4 := Bool.eq_false_iff.mpr c4
   subst c4
   have H1 : (some ((⟨#[]⟩ : ByteArray), s0_0, s0_1, 2)) = some (r1, r2, r3, r4) := by rw [if_neg (show ¬ (false = true) by decide)] at H; exact H
   clear H
   have H := H1
   clear H1
   simp only [Option.some.injEq, Prod.mk.injEq] at H
   obtain ⟨rfl, rfl, rfl, rfl⟩ := H
   obtain ⟨HGz9, hgz9⟩ := HI0.out
   have hcz9_0 := cellS102_0 HGz9
   have hcz9_1 := cellS102_1 HGz9
   have hcz9_2 := cellS102_2 HGz9
   have hfz9_0 := blk_frozen HGz9 0
   have hfz9_1 := blk_frozen HGz9 1
   have hfz9_2 := blk_frozen HGz9 2
   clear HGz9 hgz9
   go_enter Tryd.func33, Tryd.ntmps33
   try go_wp2_with (first | (go_at_call 57; go_in) | ((try simp only [Exit.inBlock, Exit.then]); refine bodyPost_end (results_none rfl _ _ _) rfl ?_; simp only []; go_at_K))
   have n0_ := Aside0.mk (IsS102.drew HI0.out)
   have n1_ := Aside0.mk (keep_drew HK.out)
   have n2_ := Aside0.mk (below_drew1 HB.out)
   clear HI0
   clear HK
   clear HB
   have HI0 := n0_
   have HK := n1_
   have HB := n2_
   clear n0_ n1_ n2_
   refine start_ (n := 17) (S := fun w' => w'.cell? ⟨g, 0, none⟩ = some (.string s0_0) ∧ w'.cell? ⟨g, 1, none⟩ = some (.int .i64 s0_1) ∧ w'.cell? ⟨g, 2, none⟩ = some (.int .i64 s0_2)) (ds := []) #[Yn, Yn, Yn, Yn, Yn, Yn, Yn, Yn, Yn, Yn, Yn, Yn, Yn, Yn, Yn, Yn, Yn] (by kernel_rfl) rfl rfl ⟨(blk_cell (Aside0.mk HI0.out.1).out 0).trans rfl, (blk_cell (Aside0.mk HI0.out.1).out 1).trans rfl, (blk_cell (Aside0.mk HI0.out.1).out 2).trans rfl⟩ (fun hHeld => ?_); refine with_tabW codec_Reader_Text.tab57004 codec_Reader_Text.bits57004 (fun HT_ HW_ => ?_)
   generalize w.drew = w10 at HI0 HK HB hHeld ⊢
   refine pure_ (i := 0) (N := some 16) (v := ?_) (a' := ?_) (Bz 17 0x1) rfl rfl (any_of HT_.out (by kernel_rfl)) (fun _ _ _ h => h) (Or.inl ⟨by rfl, ?_⟩) ?_ ?_
   rotate_left
   ·intro w'; go_simp; with_reducible rfl
   rotate_left; ·simp only [Act.put, Z1, Z2, Z3, i64_w, i32_w]; rfl
   refine pure_ (i := 1) (N := some 17) (v := ?_) (a' := ?_) (Bz 17 0x3) rfl rfl (any_of HT_.out (by kernel_rfl)) (fun _ _ _ h => h) (Or.inl ⟨by rfl, ?_⟩) ?_ ?_
   rotate_left
   ·intro w'; go_simp; with_reducible rfl
   rotate_left; ·simp only [Act.put, Z1, Z2, Z3, i64_w, i32_w]; rfl
   refine pure_ (i := 2) (N := some 18) (v := ?_) (a' := ?_) (Bz 17 0x7) rfl rfl (any_of HT_.out (by kernel_rfl)) (fun _ _ _ h => h) (Or.inl ⟨by rfl, ?_⟩) ?_ ?_
   rotate_left
   ·intro w'; go_simp; with_reducible rfl
   rotate_left; ·simp only [Act.put, Z1, Z2, Z3, i64_w, i32_w]; rfl
   refine pure_ (i := 3) (N := some 19) (v := ?_) (a' := ?_) (Bz 17 0xf) rfl rfl (any_of HT_.out (by kernel_rfl)) (fun _ _ _ h => h) (Or.inl ⟨by rfl, ?_⟩) ?_ ?_
   rotate_left
   ·intro w'; go_simp; with_reducible rfl
   rotate_left; ·simp only [Act.put, Z1, Z2, Z3, i64_w, i32_w]; rfl
   refine pure_ (i := 5) (N := some 21) (v := ?_) (a' := ?_) (Bz 17 0x2f) rfl rfl (any_of HT_.out (by kernel_rfl)) (fun _ _ _ h => h) (Or.inl ⟨by rfl, ?_⟩) ?_ ?_
   rotate_left
   ·intro w'; go_simp; with_reducible rfl
   rotate_left; ·simp only [Act.put, Z1, Z2, Z3, i64_w, i32_w]; rfl
   refine pure_ (i := 6) (N := some 22) (v := ?_) (a' := ?_) (Bz 17 0x6f) rfl rfl (any_of HT_.out (by kernel_rfl)) (fun _ _ _ h => h) (Or.inl ⟨by rfl, ?_⟩) ?_ ?_
   rotate_left
   ·intro w'; go_simp; with_reducible rfl
   rotate_left; ·simp only [Act.put, Z1, Z2, Z3, i64_w, i32_w]; rfl
   refine pure_ (i := 7) (N := some 23) (v := ?_) (a' := ?_) (Bz 17 0xef) rfl rfl (any_of HT_.out (by kernel_rfl)) (fun _ _ _ h => h) (Or.inl ⟨by rfl, ?_⟩) ?_ ?_
   rotate_left
   ·intro w'; go_simp; with_reducible rfl
   rotate_left; ·simp only [Act.put, Z1, Z2, Z3, i64_w, i32_w]; rfl
   refine take_ (i := 4) (N := some 20) (v := ?_) (a' := ?_) (Bz 17 0xff) rfl rfl (take_ofW HT_.out HW_.out (by kernel_rfl)) (fun _ _ _ h => h) (Or.inl ⟨by rfl, ?_⟩) hHeld ?_ ?_
   rotate_left
   ·rintro w' ⟨s0, s1, s2⟩; go_simp; with_reducible rfl
   rotate_left; ·simp only [Act.put, Z1, Z2, Z3, i64_w, i32_w]; rfl
   refine take_ (i := 8) (N := some 24) (v := ?_) (a' := ?_) (Bz 17 0x1ff) rfl rfl (take_ofW HT_.out HW_.out (by kernel_rfl)) (fun _ _ _ h => h) (Or.inl ⟨by rfl, ?_⟩) hHeld ?_ ?_
   rotate_left
   ·rintro w' ⟨s0, s1, s2⟩; go_simp; with_reducible rfl
   rotate_left; ·simp only [Act.put, Z1, Z2, Z3, i64_w, i32_w]; rfl
   refine one_ (i := 9) (N := some 25) #[Y, Y, Y, Y, Y, Y, Y, Y, Y, Y, Yn, Yn, Yn, Yn, Yn, Yn, Yn] rfl rfl (one_of HT_.out (by kernel_rfl)) (by decide) (fun K hK => ?_)
   refine goesT_ Tryd.func58 (by kernel_rfl) rfl #[.string s0_0, .int .i64 s0_1] (by rfl) rfl rfl rfl (by (try simp only [List.map_toArray, List.map_cons, List.map_nil]); first | done | rfl | (simp only [List.length_drop, List.length_take]; rfl)) ?_
   with_reducible refine (codec_text.calls k s0_0 s0_1 t130 t131 false _ ?side99  A3.out).mono ?_
   (case side99 => first | exact HG.out | exact Glob.below HG.out (by repeat (first | (with_reducible first | exact HB.out | apply below_alloc | apply pw_below_drewN | apply below_drew1 | refine below_set ?_ (IsS102.ge HI0.out)) | exact HB.out)))
   rintro e w11 ⟨rfl, hb⟩
   refine ⟨_, rfl, ?_⟩
   have n0_ := Aside0.mk (IsS102.below (by repeat (first | (with_reducible first | exact HI0.out | apply IsS102.alloc | apply IsS102.drewN | apply IsS102.drew | apply IsS102.set_0 | apply IsS102.set_1 | apply IsS102.set_2) | exact HI0.out)) hb)
   have n1_ := Aside0.mk (KeepBut.trans (by repeat (first | (with_reducible first | exact HK.out | apply KeepBut.set_ | apply keep_drewN | apply keep_drew | apply keep_alloc) | exact HK.out)) (KeepBut.of_below hb g none) (.inl rfl))
   have n2_ := Aside0.mk (below_step (by repeat (first | (with_reducible first | exact HB.out | apply below_alloc | apply pw_below_drewN | apply below_drew1 | refine below_set ?_ (IsS102.ge HI0.out)) | exact HB.out)) hb)
   clear HI0
   clear HK
   clear HB
   have HI0 := n0_
   have HK := n1_
   have HB := n2_
   clear n0_ n1_ n2_
   (try clear hb)
   (try clear hb2)
   (try clear hk)
   (try clear hi)
   refine hK.out _ _ ⟨(blk_cell (Aside0.mk HI0.out.1).out 0).trans rfl, (blk_cell (Aside0.mk HI0.out.1).out 1).trans rfl, (blk_cell (Aside0.mk HI0.out.1).out 2).trans rfl⟩ (fun hHeld => ?_)
   clear hK K
   refine norm_ (a' := ?_) ?_ ?_
   rotate_left
   ·show Act.put _ (some 25) _ = _
    simp only [Act.put, Z1, Z2, Z3, i64_w, i32_w]
    rfl
   refine pure_ (i := 10) (N := some 15) (v := ?_) (a' := ?_) (Bz 17 0x7ff) rfl rfl (any_of HT_.out (by kernel_rfl)) (fun _ _ _ h => h) (Or.inl ⟨by rfl, ?_⟩) ?_ ?_
   rotate_left
   ·intro w'; go_simp; with_reducible rfl
   rotate_left; ·simp only [Act.put, Z1, Z2, Z3, i64_w, i32_w]; rfl
   refine pure_ (i := 11) (N := some 26) (v := ?_) (a' := ?_) (Bz 17 0xfff) rfl rfl (any_of HT_.out (by kernel_rfl)) (fun _ _ _ h => h) (Or.inl ⟨by rfl, ?_⟩) ?_ ?_
   rotate_left
   ·intro w'; go_simp; with_reducible rfl
   rotate_left; ·simp only [Act.put, Z1, Z2, Z3, i64_w, i32_w]; rfl
   refine pure_ (i := 12) (N := some 27) (v := ?_) (a' := ?_) (Bz 17 0x1fff) rfl rfl (any_of HT_.out (by kernel_rfl)) (fun _ _ _ h => h) (Or.inl ⟨by rfl, ?_⟩) ?_ ?_
   rotate_left
   ·intro w'; go_simp; with_reducible rfl
   rotate_left; ·simp only [Act.put, Z1, Z2, Z3, i64_w, i32_w]; rfl
   refine pure_ (i := 13) (N := some 28) (v := ?_) (a' := ?_) (Bz 17 0x3fff) rfl rfl (any_of HT_.out (by kernel_rfl)) (fun _ _ _ h => h) (Or.inl ⟨by rfl, ?_⟩) ?_ ?_
   rotate_left
   ·intro w'; go_simp; with_reducible rfl
   rotate_left; ·simp only [Act.put, Z1, Z2, Z3, i64_w, i32_w]; rfl
   refine pure_ (i := 14) (N := some 6) (v := ?_) (a' := ?_) (Bz 17 0x7fff) rfl rfl (any_of HT_.out (by kernel_rfl)) (fun _ _ _ h => h) (Or.inl ⟨by rfl, ?_⟩) ?_ ?_
   rotate_left
   ·intro w'; go_simp; with_reducible rfl
   rotate_left; ·simp only [Act.put, Z1, Z2, Z3, i64_w, i32_w]; rfl
   refine pure_ (i := 15) (N := some 7) (v := ?_) (a' := ?_) (Bz 17 0xffff) rfl rfl (any_of HT_.out (by kernel_rfl)) (fun _ _ _ h => h) (Or.inl ⟨by rfl, ?_⟩) ?_ ?_
   rotate_left
   ·intro w'; go_simp; with_reducible rfl
   rotate_left; ·simp only [Act.put, Z1, Z2, Z3, i64_w, i32_w]; rfl
   refine pure_ (i := 16) (N := some 8) (v := ?_) (a' := ?_) (Bz 17 0x1ffff) rfl rfl (any_of HT_.out (by kernel_rfl)) (fun _ _ _ h => h) (Or.inl ⟨by rfl, ?_⟩) ?_ ?_
   rotate_left
   ·intro w'; go_simp; with_reducible rfl
   rotate_left; ·simp only [Act.put, Z1, Z2, Z3, i64_w, i32_w]; rfl
   refine done_ (done_of HT_.out (by kernel_rfl)) ?_
   obtain ⟨HGz12, hgz12⟩ := HI0.out
   have hcz12_0 := cellS102_0 HGz12
   have hcz12_1 := cellS102_1 HGz12
   have hcz12_2 := cellS102_2 HGz12
   have hfz12_0 := blk_frozen HGz12 0
   have hfz12_1 := blk_frozen HGz12 1
   have hfz12_2 := blk_frozen HGz12 2
   clear HGz12 hgz12
   try go_wp2_with (first | (go_at_call 57; go_in) | ((try simp only [Exit.inBlock, Exit.then]); refine bodyPost_end (results_none rfl _ _ _) rfl ?_; simp only []; go_at_K))
   go_ret
   exact ⟨by first | rfl | (simp [errW_none, errW_some] <;> rfl) | (simp [*, errW_none, errW_some] <;> rfl), by repeat (first | (with_reducible first | exact HI0.out | apply IsS102.alloc | apply IsS102.drewN | apply IsS102.drew | apply IsS102.set_0 | apply IsS102.set_1 | apply IsS102.set_2) | exact HI0.out), by repeat (first | (with_reducible first | exact HB.out | apply below_alloc | apply pw_below_drewN | apply below_drew1 | refine below_set ?_ (IsS102.ge HI0.out)) | exact HB.out), by repeat (first | (with_reducible first | exact HK.out | apply KeepBut.set_ | apply keep_drewN | apply keep_drew | apply keep_alloc) | exact HK.out)⟩
 ·rw [if_neg c2] at H
  have c2b0 : (s0_2 == 0) = false := beq_eq_false_iff_ne.mpr c2
  have c2b1 : (s0_2 != 0) = true := bne_iff_ne.mpr c2
  simp only [Option.some.injEq, Prod.mk.injEq] at H
  obtain ⟨rfl, rfl, rfl, rfl⟩ := H
  obtain ⟨HGz13, hgz13⟩ := HI0.out
  have hcz13_0 := cellS102_0 HGz13
  have hcz13_1 := cellS102_1 HGz13
  have hcz13_2 := cellS102_2 HGz13
  have hfz13_0 := blk_frozen HGz13 0
  have hfz13_1 := blk_frozen HGz13 1
  have hfz13_2 := blk_frozen HGz13 2
  clear HGz13 hgz13
  go_enter Tryd.func33, Tryd.ntmps33
  go_wp2_with (first | (go_at_call 57; go_in) | ((try simp only [Exit.inBlock, Exit.then]); refine bodyPost_end (results_none rfl _ _ _) rfl ?_; simp only []; go_at_K))
  go_ret
  exact ⟨by first | rfl | (simp [errW_none, errW_some] <;> rfl) | (simp [*, errW_none, errW_some] <;> rfl), by repeat (first | (with_reducible first | exact HI0.out | apply IsS102.alloc | apply IsS102.drewN | apply IsS102.drew | apply IsS102.set_0 | apply IsS102.set_1 | apply IsS102.set_2) | exact HI0.out), by repeat (first | (with_reducible first | exact HB.out | apply below_alloc | apply pw_below_drewN | apply below_drew1 | refine below_set ?_ (IsS102.ge HI0.out)) | exact HB.out), by repeat (first | (with_reducible first | exact HK.out | apply KeepBut.set_ | apply keep_drewN | apply keep_drew | apply keep_alloc) | exact HK.out)⟩
end Go.Proofs.YtbccjcdmpiolpaaDoor.T
end
section
namespace Go.Proofs.YtbccjcdmpiolpaaDoor.T
open Go.RowKit Go.Proofs.YtbccjcdmpiolpaaDoorW.PrintWords Go.Proofs.YtbccjcdmpiolpaaDoorW.PrintLast Go.Proofs.YtbccjcdmpiolpaaDoorW.PrintMore
attribute [local go_sem] max2_int min2_int max_two min_two max_three min_three max_four min_four
set_option linter.unusedVariables false
set_option linter.unusedSimpArgs false
def codec_Reader_End.f (s0_0 : ByteArray) (s0_1 : Int) (s0_2 : Int) : Option (Int × ByteArray × Int × Int) := if s0_2 = 0 then (if s0_1 = (s0_0.size : Int) then (some (s0_2, s0_0, s0_1, s0_2)) else (some (2, s0_0, s0_1, s0_2))) else (some (s0_2, s0_0, s0_1, s0_2))
set_option maxHeartbeats 8000000 in
set_option maxRecDepth 100000 in
theorem codec_Reader_End.calls (g : Nat) (s0_0 : ByteArray) (s0_1 : Int) (s0_2 : Int) (r1 : Int) (r2 : ByteArray) (r3 : Int) (r4 : Int) (w0 w : World) (hG : Glob w0) (hI : IsS102 w0 w g s0_0 s0_1 s0_2) (hB : Below w0.heap.size w0 w) (h : codec_Reader_End.f s0_0 s0_1 s0_2 = some (r1, r2, r3, r4)) :
  Calls Tryd.prog 34 #[.pointer (some ⟨g, 0, none⟩)] w fun e w' => e = .returned (.int .i64 r1) ∧ IsS102 w0 w' g r2 r3 r4 ∧ Below w0.heap.size w0 w' ∧ KeepBut w w' g none := by
 have HG := Aside0.mk hG
 clear hG
 have HI0 := Aside0.mk hI
 have HK := Aside0.mk (KeepBut.refl w g none)
 have HL := Aside0.mk hB.size
 clear hI
 have HW0 := Aside0.mk hB.size
 have HB := Aside0.mk hB
 clear hB
 have H : (if s0_2 = 0 then (if s0_1 = (s0_0.size : Int) then (some (s0_2, s0_0, s0_1, s0_2)) else (some (2, s0_0, s0_1, s0_2))) else (some (s0_2, s0_0, s0_1, s0_2))) = some (r1, r2, r3, r4) := h
 clear h
 by_cases c2 : s0_2 = 0
 ·rw [if_pos c2] at H
  have c2b0 : (s0_2 == 0) = true := beq_iff_eq.mpr c2
  have c2b1 : (s0_2 != 0) = false := bne_eq_false_iff_eq.mpr c2
  clear c2
  by_cases c3 : s0_1 = (s0_0.size : Int)
  ·rw [if_pos c3] at H
   have c3b0 : (s0_1 == (s0_0.size : Int)) = true := beq_iff_eq.mpr c3
   have c3b1 : (s0_1 != (s0_0.size : Int)) = false := bne_eq_false_iff_eq.mpr c3
   clear c3
   simp only [Option.some.injEq, Prod.mk.injEq] at H
   obtain ⟨rfl, rfl, rfl, rfl⟩ := H
   obtain ⟨HGz4, hgz4⟩ := HI0.out
   have hcz4_0 := cellS102_0 HGz4
   have hcz4_1 := cellS102_1 HGz4
   have hcz4_2 := cellS102_2 HGz4
   have hfz4_0 := blk_frozen HGz4 0
   have hfz4_1 := blk_frozen HGz4 1
   have hfz4_2 := blk_frozen HGz4 2
   clear HGz4 hgz4
   go_enter Tryd.func34, Tryd.ntmps34
   go_wp2
   repeat (go_quiet (fail); try go_wp2)
   go_ret
   exact ⟨by first | rfl | (simp [errW_none, errW_some] <;> rfl) | (simp [*, errW_none, errW_some] <;> rfl), by repeat (first | (with_reducible first | exact HI0.out | apply IsS102.alloc | apply IsS102.drewN | apply IsS102.drew | apply IsS102.set_0 | apply IsS102.set_1 | apply IsS102.set_2) | exact HI0.out), by repeat (first | (with_reducible first | exact HB.out | apply below_alloc | apply pw_below_drewN | apply below_drew1 | refine below_set ?_ (IsS102.ge HI0.out)) | exact HB.out), by repeat (first | (with_reducible first | exact HK.out | apply KeepBut.set_ | apply keep_drewN | apply keep_drew | apply keep_alloc) | exact HK.out)⟩
  ·rw [if_neg c3] at H
   have c3b0 : (s0_1 == (s0_0.size : Int)) = false := beq_eq_false_iff_ne.mpr c3
   have c3b1 : (s0_1 != (s0_0.size : Int)) = true := bne_iff_ne.mpr c3
   simp only [Option.some.injEq, Prod.mk.injEq] at H
   obtain ⟨rfl, rfl, rfl, rfl⟩ := H
   obtain ⟨HGz5, hgz5⟩ := HI0.out
   have hcz5_0 := cellS102_0 HGz5
   have hcz5_1 := cellS102_1 HGz5
   have hcz5_2 := cellS102_2 HGz5
   have hfz5_0 := blk_frozen HGz5 0
   have hfz5_1 := blk_frozen HGz5 1
   have hfz5_2 := blk_frozen HGz5 2
   clear HGz5 hgz5
   go_enter Tryd.func34, Tryd.ntmps34
   go_wp2
   repeat (go_quiet (fail); try go_wp2)
   go_ret
   exact ⟨by first | rfl | (simp [errW_none, errW_some] <;> rfl) | (simp [*, errW_none, errW_some] <;> rfl), by repeat (first | (with_reducible first | exact HI0.out | apply IsS102.alloc | apply IsS102.drewN | apply IsS102.drew | apply IsS102.set_0 | apply IsS102.set_1 | apply IsS102.set_2) | exact HI0.out), by repeat (first | (with_reducible first | exact HB.out | apply below_alloc | apply pw_below_drewN | apply below_drew1 | refine below_set ?_ (IsS102.ge HI0.out)) | exact HB.out), by repeat (first | (with_reducible first | exact HK.out | apply KeepBut.set_ | apply keep_drewN | apply keep_drew | apply keep_alloc) | exact HK.out)⟩
 ·rw [if_neg c2] at H
  have c2b0 : (s0_2 == 0) = false := beq_eq_false_iff_ne.mpr c2
  have c2b1 : (s0_2 != 0) = true := bne_iff_ne.mpr c2
  simp only [Option.some.injEq, Prod.mk.injEq] at H
  obtain ⟨rfl, rfl, rfl, rfl⟩ := H
  obtain ⟨HGz6, hgz6⟩ := HI0.out
  have hcz6_0 := cellS102_0 HGz6
  have hcz6_1 := cellS102_1 HGz6
  have hcz6_2 := cellS102_2 HGz6
  have hfz6_0 := blk_frozen HGz6 0
  have hfz6_1 := blk_frozen HGz6 1
  have hfz6_2 := blk_frozen HGz6 2
  clear HGz6 hgz6
  go_enter Tryd.func34, Tryd.ntmps34
  go_wp2
  repeat (go_quiet (fail); try go_wp2)
  go_ret
  exact ⟨by first | rfl | (simp [errW_none, errW_some] <;> rfl) | (simp [*, errW_none, errW_some] <;> rfl), by repeat (first | (with_reducible first | exact HI0.out | apply IsS102.alloc | apply IsS102.drewN | apply IsS102.drew | apply IsS102.set_0 | apply IsS102.set_1 | apply IsS102.set_2) | exact HI0.out), by repeat (first | (with_reducible first | exact HB.out | apply below_alloc | apply pw_below_drewN | apply below_drew1 | refine below_set ?_ (IsS102.ge HI0.out)) | exact HB.out), by repeat (first | (with_reducible first | exact HK.out | apply KeepBut.set_ | apply keep_drewN | apply keep_drew | apply keep_alloc) | exact HK.out)⟩
end Go.Proofs.YtbccjcdmpiolpaaDoor.T
end
section
namespace Go.Proofs.YtbccjcdmpiolpaaDoor.T
open Go.RowKit Go.Proofs.YtbccjcdmpiolpaaDoorW.PrintWords Go.Proofs.YtbccjcdmpiolpaaDoorW.PrintLast Go.Proofs.YtbccjcdmpiolpaaDoorW.PrintMore
attribute [local go_sem] max2_int min2_int max_two min_two max_three min_three max_four min_four
set_option linter.unusedVariables false
set_option linter.unusedSimpArgs false
def codec_Reader_Unsigned_1.f (k : Nat) (a0 : ByteArray) (a1 : Int) : Option (Int × Int × Bool) := (codec_raw.f k a0 a1 3).bind fun bt133 => (some (bt133.1, bt133.2.1, bt133.2.2))
set_option maxHeartbeats 8000000 in
set_option maxRecDepth 100000 in
theorem codec_Reader_Unsigned_1.calls (k : Nat) (a0 : ByteArray) (a1 : Int) (r1 : Int) (r2 : Int) (r3 : Bool) (w : World) (hG : Glob w) (h : codec_Reader_Unsigned_1.f k a0 a1 = some (r1, r2, r3)) :
  Calls Tryd.prog 73 #[.string a0, .int .i64 a1] w fun e w' => e = .returned (.tuple #[.int .u64 r1, .int .i64 r2, .bool r3]) ∧ Below w.heap.size w w' := by
 have HG := Aside0.mk hG
 clear hG
 have HB := Aside0.mk (Below.refl w.heap.size w)
 have H : ((codec_raw.f k a0 a1 3).bind fun bt133 => (some (bt133.1, bt133.2.1, bt133.2.2))) = some (r1, r2, r3) := h
 clear h
 replace H := Option.bind_eq_some_iff.mp H
 obtain ⟨⟨t133, t134, t135⟩, A30, H⟩ := H
 replace H : (some (t133, t134, t135)) = some (r1, r2, r3) := H
 have A3 := Aside0.mk A30
 clear A30
 simp only [Option.some.injEq, Prod.mk.injEq] at H
 obtain ⟨rfl, rfl, rfl⟩ := H
 go_enter Tryd.func73, Tryd.ntmps73
 go_wp2_with (first | ((with_reducible refine gate_callee (f := 64) rfl ?_); refine goesL_ (some 9) rfl rfl Tryd.func64 (by kernel_rfl) rfl #[.string a0, .int .i64 a1, .int .i64 3] rfl (by (try simp only [List.map_toArray, List.map_cons, List.map_nil]); first | done | rfl | (simp only [List.length_drop, List.length_take]; rfl)) ?_; (with_reducible refine (codec_raw.calls k a0 a1 3 t133 t134 t135 _ ?side99  A3.out).mono ?_); (case side99 => first | exact HG.out | exact Glob.below HG.out (by repeat (first | (with_reducible first | exact HB.out | apply below_alloc | apply pw_below_drewN | apply below_drew1) | exact HB.out))); rintro e w4 ⟨rfl, hb⟩; refine ⟨_, rfl, ?_⟩; have n0_ := Aside0.mk (below_step (by repeat (first | (with_reducible first | exact HB.out | apply below_alloc | apply pw_below_drewN | apply below_drew1) | exact HB.out)) hb); clear HB; have HB := n0_; clear n0_; (try clear hb); (try clear hb2); (try clear hk); (try clear hi)))
 go_ret3
 exact ⟨by first | rfl | (simp [errW_none, errW_some] <;> rfl) | (simp [*, errW_none, errW_some] <;> rfl), by repeat (first | (with_reducible first | exact HB.out | apply below_alloc | apply pw_below_drewN | apply below_drew1) | exact HB.out)⟩
end Go.Proofs.YtbccjcdmpiolpaaDoor.T
end
section
namespace Go.Proofs.YtbccjcdmpiolpaaDoor.T
open Go.RowKit Go.Proofs.YtbccjcdmpiolpaaDoorW.PrintWords Go.Proofs.YtbccjcdmpiolpaaDoorW.PrintLast Go.Proofs.YtbccjcdmpiolpaaDoorW.PrintMore
attribute [local go_sem] max2_int min2_int max_two min_two max_three min_three max_four min_four
set_option linter.unusedVariables false
set_option linter.unusedSimpArgs false
def codec_Reader_Unsigned.f (k : Nat) (s0_0 : ByteArray) (s0_1 : Int) (s0_2 : Int) : Option (Int × ByteArray × Int × Int) := if s0_2 = 0 then ((codec_Reader_Unsigned_1.f k s0_0 s0_1).bind fun bt136 => (if bt136.2.2 = true then (some (bt136.1, s0_0, bt136.2.1, s0_2)) else (some (0, s0_0, s0_1, 2)))) else (some (0, s0_0, s0_1, s0_2))
def codec_Reader_Unsigned.T62004 : Bool × List (List Nat × List Nat) := (true, [([], []), ([], []), ([1], [1]), ([2], [2]), ([3], [3]), ([], []), ([5], [5]), ([6], [6]), ([7], [7]), ([0, 4, 8], [0, 4, 8]), ([9], [9]), ([10], [10]), ([10], [10]), ([10], [10]), ([11, 9, 0, 1, 2, 3, 4, 5, 6, 7, 8, 9, 10, 11], [11]), ([12, 14, 0, 1, 2, 3, 4, 5, 6, 7, 8, 9, 10, 11, 12, 14], [12]), ([13, 15, 0, 1, 2, 3, 4, 5, 6, 7, 8, 9, 10, 11, 12, 13, 14, 15], [13])])
def codec_Reader_Unsigned.B62004 : List Nat := [0, 0, 2, 6, 14, 0, 32, 96, 224, 511, 1023, 2047, 2047, 2047, 4095, 24575, 65535]
theorem codec_Reader_Unsigned.tab62004 : rtab .any (opsOf Tryd.f62 4) = codec_Reader_Unsigned.T62004 := by kernel_rfl
theorem codec_Reader_Unsigned.bits62004 : waitsOk codec_Reader_Unsigned.T62004.2 codec_Reader_Unsigned.B62004 = true := by kernel_rfl
set_option maxHeartbeats 8000000 in
set_option maxRecDepth 100000 in
theorem codec_Reader_Unsigned.calls (k : Nat) (g : Nat) (s0_0 : ByteArray) (s0_1 : Int) (s0_2 : Int) (r1 : Int) (r2 : ByteArray) (r3 : Int) (r4 : Int) (w0 w : World) (hG : Glob w0) (hI : IsS102 w0 w g s0_0 s0_1 s0_2) (hB : Below w0.heap.size w0 w) (h : codec_Reader_Unsigned.f k s0_0 s0_1 s0_2 = some (r1, r2, r3, r4)) :
  Calls Tryd.prog 59 #[.pointer (some ⟨g, 0, none⟩)] w fun e w' => e = .returned (.int .u64 r1) ∧ IsS102 w0 w' g r2 r3 r4 ∧ Below w0.heap.size w0 w' ∧ KeepBut w w' g none := by
 have hmf_ : ∀ (fn : Fn) (first cap : Array Value) (w : World), (Instr.makeFunc fn first cap).run Tryd.prog w = .ok (.func fn first cap) w := fun _ _ _ _ => rfl
 have HG := Aside0.mk hG
 clear hG
 have HI0 := Aside0.mk hI
 have HK := Aside0.mk (KeepBut.refl w g none)
 have HL := Aside0.mk hB.size
 clear hI
 have HW0 := Aside0.mk hB.size
 have HB := Aside0.mk hB
 clear hB
 have H : (if s0_2 = 0 then ((codec_Reader_Unsigned_1.f k s0_0 s0_1).bind fun bt136 => (if bt136.2.2 = true then (some (bt136.1, s0_0, bt136.2.1, s0_2)) else (some (0, s0_0, s0_1, 2)))) else (some (0, s0_0, s0_1, s0_2))) = some (r1, r2, r3, r4) := h
 clear h
 by_cases c2 : s0_2 = 0
 ·rw [if_pos c2] at H
  have c2b0 : (s0_2 == 0) = true := beq_iff_eq.mpr c2
  have c2b1 : (s0_2 != 0) = false := bne_eq_false_iff_eq.mpr c2
  clear c2
  replace H := Option.bind_eq_some_iff.mp H
  obtain ⟨⟨t136, t137, t138⟩, A30, H⟩ := H
  replace H : (if t138 = true then (some (t136, s0_0, t137, s0_2)) else (some (0, s0_0, s0_1, 2))) = some (r1, r2, r3, r4) := H
  have A3 := Aside0.mk A30
  clear A30
  by_cases c4 : t138 = true
  ·subst c4
   have H1 : (some (t136, s0_0, t137, s0_2)) = some (r1, r2, r3, r4) := by rw [if_pos rfl] at H; exact H
   clear H
   have H := H1
   clear H1
   simp only [Option.some.injEq, Prod.mk.injEq] at H
   obtain ⟨rfl, rfl, rfl, rfl⟩ := H
   obtain ⟨HGz5, hgz5⟩ := HI0.out
   have hcz5_0 := cellS102_0 HGz5
   have hcz5_1 := cellS102_1 HGz5
   have hcz5_2 := cellS102_2 HGz5
   have hfz5_0 := blk_frozen HGz5 0
   have hfz5_1 := blk_frozen HGz5 1
   have hfz5_2 := blk_frozen HGz5 2
   clear HGz5 hgz5
   go_enter Tryd.func59, Tryd.ntmps59
   try go_wp2_with (first | (go_at_call 62; go_in) | ((try simp only [Exit.inBlock, Exit.then]); refine bodyPost_end (results_none rfl _ _ _) rfl ?_; simp only []; go_at_K))
   have n0_ := Aside0.mk (IsS102.drew HI0.out)
   have n1_ := Aside0.mk (keep_drew HK.out)
   have n2_ := Aside0.mk (below_drew1 HB.out)
   clear HI0
   clear HK
   clear HB
   have HI0 := n0_
   have HK := n1_
   have HB := n2_
   clear n0_ n1_ n2_
   refine start_ (n := 17) (S := fun w' => w'.cell? ⟨g, 0, none⟩ = some (.string s0_0) ∧ w'.cell? ⟨g, 1, none⟩ = some (.int .i64 s0_1) ∧ w'.cell? ⟨g, 2, none⟩ = some (.int .i64 s0_2)) (ds := []) #[Yn, Yn, Yn, Yn, Yn, Yn, Yn, Yn, Yn, Yn, Yn, Yn, Yn, Yn, Yn, Yn, Yn] (by kernel_rfl) rfl rfl ⟨(blk_cell (Aside0.mk HI0.out.1).out 0).trans rfl, (blk_cell (Aside0.mk HI0.out.1).out 1).trans rfl, (blk_cell (Aside0.mk HI0.out.1).out 2).trans rfl⟩ (fun hHeld => ?_); refine with_tabW codec_Reader_Unsigned.tab62004 codec_Reader_Unsigned.bits62004 (fun HT_ HW_ => ?_)
   generalize w.drew = w6 at HI0 HK HB hHeld ⊢
   refine pure_ (i := 0) (N := some 16) (v := ?_) (a' := ?_) (Bz 17 0x1) rfl rfl (any_of HT_.out (by kernel_rfl)) (fun _ _ _ h => h) (Or.inl ⟨by rfl, ?_⟩) ?_ ?_
   rotate_left
   ·intro w'; go_simp; with_reducible rfl
   rotate_left; ·simp only [Act.put, Z1, Z2, Z3, i64_w, i32_w]; rfl
   refine pure_ (i := 1) (N := some 17) (v := ?_) (a' := ?_) (Bz 17 0x3) rfl rfl (any_of HT_.out (by kernel_rfl)) (fun _ _ _ h => h) (Or.inl ⟨by rfl, ?_⟩) ?_ ?_
   rotate_left
   ·intro w'; go_simp; with_reducible rfl
   rotate_left; ·simp only [Act.put, Z1, Z2, Z3, i64_w, i32_w]; rfl
   refine pure_ (i := 2) (N := some 18) (v := ?_) (a' := ?_) (Bz 17 0x7) rfl rfl (any_of HT_.out (by kernel_rfl)) (fun _ _ _ h => h) (Or.inl ⟨by rfl, ?_⟩) ?_ ?_
   rotate_left
   ·intro w'; go_simp; with_reducible rfl
   rotate_left; ·simp only [Act.put, Z1, Z2, Z3, i64_w, i32_w]; rfl
   refine pure_ (i := 3) (N := some 19) (v := ?_) (a' := ?_) (Bz 17 0xf) rfl rfl (any_of HT_.out (by kernel_rfl)) (fun _ _ _ h => h) (Or.inl ⟨by rfl, ?_⟩) ?_ ?_
   rotate_left
   ·intro w'; go_simp; with_reducible rfl
   rotate_left; ·simp only [Act.put, Z1, Z2, Z3, i64_w, i32_w]; rfl
   refine pure_ (i := 5) (N := some 21) (v := ?_) (a' := ?_) (Bz 17 0x2f) rfl rfl (any_of HT_.out (by kernel_rfl)) (fun _ _ _ h => h) (Or.inl ⟨by rfl, ?_⟩) ?_ ?_
   rotate_left
   ·intro w'; go_simp; with_reducible rfl
   rotate_left; ·simp only [Act.put, Z1, Z2, Z3, i64_w, i32_w]; rfl
   refine pure_ (i := 6) (N := some 22) (v := ?_) (a' := ?_) (Bz 17 0x6f) rfl rfl (any_of HT_.out (by kernel_rfl)) (fun _ _ _ h => h) (Or.inl ⟨by rfl, ?_⟩) ?_ ?_
   rotate_left
   ·intro w'; go_simp; with_reducible rfl
   rotate_left; ·simp only [Act.put, Z1, Z2, Z3, i64_w, i32_w]; rfl
   refine pure_ (i := 7) (N := some 23) (v := ?_) (a' := ?_) (Bz 17 0xef) rfl rfl (any_of HT_.out (by kernel_rfl)) (fun _ _ _ h => h) (Or.inl ⟨by rfl, ?_⟩) ?_ ?_
   rotate_left
   ·intro w'; go_simp; with_reducible rfl
   rotate_left; ·simp only [Act.put, Z1, Z2, Z3, i64_w, i32_w]; rfl
   refine take_ (i := 4) (N := some 20) (v := ?_) (a' := ?_) (Bz 17 0xff) rfl rfl (take_ofW HT_.out HW_.out (by kernel_rfl)) (fun _ _ _ h => h) (Or.inl ⟨by rfl, ?_⟩) hHeld ?_ ?_
   rotate_left
   ·rintro w' ⟨s0, s1, s2⟩; go_simp; with_reducible rfl
   rotate_left; ·simp only [Act.put, Z1, Z2, Z3, i64_w, i32_w]; rfl
   refine take_ (i := 8) (N := some 24) (v := ?_) (a' := ?_) (Bz 17 0x1ff) rfl rfl (take_ofW HT_.out HW_.out (by kernel_rfl)) (fun _ _ _ h => h) (Or.inl ⟨by rfl, ?_⟩) hHeld ?_ ?_
   rotate_left
   ·rintro w' ⟨s0, s1, s2⟩; go_simp; with_reducible rfl
   rotate_left; ·simp only [Act.put, Z1, Z2, Z3, i64_w, i32_w]; rfl
   refine one_ (i := 9) (N := some 25) #[Y, Y, Y, Y, Y, Y, Y, Y, Y, Y, Yn, Yn, Yn, Yn, Yn, Yn, Yn] rfl rfl (one_of HT_.out (by kernel_rfl)) (by decide) (fun K hK => ?_)
   refine goesT_ Tryd.func73 (by kernel_rfl) rfl #[.string s0_0, .int .i64 s0_1] (by rfl) rfl rfl rfl (by (try simp only [List.map_toArray, List.map_cons, List.map_nil]); first | done | rfl | (simp only [List.length_drop, List.length_take]; rfl)) ?_
   with_reducible refine (codec_Reader_Unsigned_1.calls k s0_0 s0_1 t136 t137 true _ ?side99  A3.out).mono ?_
   (case side99 => first | exact HG.out | exact Glob.below HG.out (by repeat (first | (with_reducible first | exact HB.out | apply below_alloc | apply pw_below_drewN | apply below_drew1 | refine below_set ?_ (IsS102.ge HI0.out)) | exact HB.out)))
   rintro e w7 ⟨rfl, hb⟩
   refine ⟨_, rfl, ?_⟩
   have n0_ := Aside0.mk (IsS102.below (by repeat (first | (with_reducible first | exact HI0.out | apply IsS102.alloc | apply IsS102.drewN | apply IsS102.drew | apply IsS102.set_0 | apply IsS102.set_1 | apply IsS102.set_2) | exact HI0.out)) hb)
   have n1_ := Aside0.mk (KeepBut.trans (by repeat (first | (with_reducible first | exact HK.out | apply KeepBut.set_ | apply keep_drewN | apply keep_drew | apply keep_alloc) | exact HK.out)) (KeepBut.of_below hb g none) (.inl rfl))
   have n2_ := Aside0.mk (below_step (by repeat (first | (with_reducible first | exact HB.out | apply below_alloc | apply pw_below_drewN | apply below_drew1 | refine below_set ?_ (IsS102.ge HI0.out)) | exact HB.out)) hb)
   clear HI0
   clear HK
   clear HB
   have HI0 := n0_
   have HK := n1_
   have HB := n2_
   clear n0_ n1_ n2_
   (try clear hb)
   (try clear hb2)
   (try clear hk)
   (try clear hi)
   refine hK.out _ _ ⟨(blk_cell (Aside0.mk HI0.out.1).out 0).trans rfl, (blk_cell (Aside0.mk HI0.out.1).out 1).trans rfl, (blk_cell (Aside0.mk HI0.out.1).out 2).trans rfl⟩ (fun hHeld => ?_)
   clear hK K
   refine norm_ (a' := ?_) ?_ ?_
   rotate_left
   ·show Act.put _ (some 25) _ = _
    simp only [Act.put, Z1, Z2, Z3, i64_w, i32_w]
    rfl
   refine pure_ (i := 10) (N := some 15) (v := ?_) (a' := ?_) (Bz 17 0x7ff) rfl rfl (any_of HT_.out (by kernel_rfl)) (fun _ _ _ h => h) (Or.inl ⟨by rfl, ?_⟩) ?_ ?_
   rotate_left
   ·intro w'; go_simp; with_reducible rfl
   rotate_left; ·simp only [Act.put, Z1, Z2, Z3, i64_w, i32_w]; rfl
   refine pure_ (i := 11) (N := some 26) (v := ?_) (a' := ?_) (Bz 17 0xfff) rfl rfl (any_of HT_.out (by kernel_rfl)) (fun _ _ _ h => h) (Or.inl ⟨by rfl, ?_⟩) ?_ ?_
   rotate_left
   ·intro w'; go_simp; with_reducible rfl
   rotate_left; ·simp only [Act.put, Z1, Z2, Z3, i64_w, i32_w]; rfl
   refine pure_ (i := 12) (N := some 27) (v := ?_) (a' := ?_) (Bz 17 0x1fff) rfl rfl (any_of HT_.out (by kernel_rfl)) (fun _ _ _ h => h) (Or.inl ⟨by rfl, ?_⟩) ?_ ?_
   rotate_left
   ·intro w'; go_simp; with_reducible rfl
   rotate_left; ·simp only [Act.put, Z1, Z2, Z3, i64_w, i32_w]; rfl
   refine pure_ (i := 13) (N := some 28) (v := ?_) (a' := ?_) (Bz 17 0x3fff) rfl rfl (any_of HT_.out (by kernel_rfl)) (fun _ _ _ h => h) (Or.inl ⟨by rfl, ?_⟩) ?_ ?_
   rotate_left
   ·intro w'; go_simp; with_reducible rfl
   rotate_left; ·simp only [Act.put, Z1, Z2, Z3, i64_w, i32_w]; rfl
   refine pure_ (i := 14) (N := some 6) (v := ?_) (a' := ?_) (Bz 17 0x7fff) rfl rfl (any_of HT_.out (by kernel_rfl)) (fun _ _ _ h => h) (Or.inl ⟨by rfl, ?_⟩) ?_ ?_
   rotate_left
   ·intro w'; go_simp; with_reducible rfl
   rotate_left; ·simp only [Act.put, Z1, Z2, Z3, i64_w, i32_w]; rfl
   refine pure_ (i := 15) (N := some 7) (v := ?_) (a' := ?_) (Bz 17 0xffff) rfl rfl (any_of HT_.out (by kernel_rfl)) (fun _ _ _ h => h) (Or.inl ⟨by rfl, ?_⟩) ?_ ?_
   rotate_left
   ·intro w'; go_simp; with_reducible rfl
   rotate_left; ·simp only [Act.put, Z1, Z2, Z3, i64_w, i32_w]; rfl
   refine pure_ (i := 16) (N := some 8) (v := ?_) (a' := ?_) (Bz 17 0x1ffff) rfl rfl (any_of HT_.out (by kernel_rfl)) (fun _ _ _ h => h) (Or.inl ⟨by rfl, ?_⟩) ?_ ?_
   rotate_left
   ·intro w'; go_simp; with_reducible rfl
   rotate_left; ·simp only [Act.put, Z1, Z2, Z3, i64_w, i32_w]; rfl
   refine done_ (done_of HT_.out (by kernel_rfl)) ?_
   obtain ⟨HGz8, hgz8⟩ := HI0.out
   have hcz8_0 := cellS102_0 HGz8
   have hcz8_1 := cellS102_1 HGz8
   have hcz8_2 := cellS102_2 HGz8
   have hfz8_0 := blk_frozen HGz8 0
   have hfz8_1 := blk_frozen HGz8 1
   have hfz8_2 := blk_frozen HGz8 2
   clear HGz8 hgz8
   try go_wp2_with (first | (go_at_call 62; go_in) | ((try simp only [Exit.inBlock, Exit.then]); refine bodyPost_end (results_none rfl _ _ _) rfl ?_; simp only []; go_at_K))
   go_ret
   exact ⟨by first | rfl | (simp [errW_none, errW_some] <;> rfl) | (simp [*, errW_none, errW_some] <;> rfl), by repeat (first | (with_reducible first | exact HI0.out | apply IsS102.alloc | apply IsS102.drewN | apply IsS102.drew | apply IsS102.set_0 | apply IsS102.set_1 | apply IsS102.set_2) | exact HI0.out), by repeat (first | (with_reducible first | exact HB.out | apply below_alloc | apply pw_below_drewN | apply below_drew1 | refine below_set ?_ (IsS102.ge HI0.out)) | exact HB.out), by repeat (first | (with_reducible first | exact HK.out | apply KeepBut.set_ | apply keep_drewN | apply keep_drew | apply keep_alloc) | exact HK.out)⟩
  ·replace c4 := Bool.eq_false_iff.mpr c4
   subst c4
   have H1 : (some (0, s0_0, s0_1, 2)) = some (r1, r2, r3, r4) := by rw [if_neg (show ¬ (false = true) by decide)] at H; exact H
   clear H
   have H := H1
   clear H1
   simp only [Option.some.injEq, Prod.mk.injEq] at H
   obtain ⟨rfl, rfl, rfl, rfl⟩ := H
   obtain ⟨HGz9, hgz9⟩ := HI0.out
   have hcz9_0 := cellS102_0 HGz9
   have hcz9_1 := cellS102_1 HGz9
   have hcz9_2 := cellS102_2 HGz9
   have hfz9_0 := blk_frozen HGz9 0
   have hfz9_1 := blk_frozen HGz9 1
   have hfz9_2 := blk_frozen HGz9 2
   clear HGz9 hgz9
   go_enter Tryd.func59, Tryd.ntmps59
   try go_wp2_with (first | (go_at_call 62; go_in) | ((try simp only [Exit.inBlock, Exit.then]); refine bodyPost_end (results_none rfl _ _ _) rfl ?_; simp only []; go_at_K))
   have n0_ := Aside0.mk (IsS102.drew HI0.out)
   have n1_ := Aside0.mk (keep_drew HK.out)
   have n2_ := Aside0.mk (below_drew1 HB.out)
   clear HI0
   clear HK
   clear HB
   have HI0 := n0_
   have HK := n1_
   have HB := n2_
   clear n0_ n1_ n2_
   refine start_ (n := 17) (S := fun w' => w'.cell? ⟨g, 0, none⟩ = some (.string s0_0) ∧ w'.cell? ⟨g, 1, none⟩ = some (.int .i64 s0_1) ∧ w'.cell? ⟨g, 2, none⟩ = some (.int .i64 s0_2)) (ds := []) #[Yn, Yn, Yn, Yn, Yn, Yn, Yn, Yn, Yn, Yn, Yn, Yn, Yn, Yn, Yn, Yn, Yn] (by kernel_rfl) rfl rfl ⟨(blk_cell (Aside0.mk HI0.out.1).out 0).trans rfl, (blk_cell (Aside0.mk HI0.out.1).out 1).trans rfl, (blk_cell (Aside0.mk HI0.out.1).out 2).trans rfl⟩ (fun hHeld => ?_); refine with_tabW codec_Reader_Unsigned.tab62004 codec_Reader_Unsigned.bits62004 (fun HT_ HW_ => ?_)
   generalize w.drew = w10 at HI0 HK HB hHeld ⊢
   refine pure_ (i := 0) (N := some 16) (v := ?_) (a' := ?_) (Bz 17 0x1) rfl rfl (any_of HT_.out (by kernel_rfl)) (fun _ _ _ h => h) (Or.inl ⟨by rfl, ?_⟩) ?_ ?_
   rotate_left
   ·intro w'; go_simp; with_reducible rfl
   rotate_left; ·simp only [Act.put, Z1, Z2, Z3, i64_w, i32_w]; rfl
   refine pure_ (i := 1) (N := some 17) (v := ?_) (a' := ?_) (Bz 17 0x3) rfl rfl (any_of HT_.out (by kernel_rfl)) (fun _ _ _ h => h) (Or.inl ⟨by rfl, ?_⟩) ?_ ?_
   rotate_left
   ·intro w'; go_simp; with_reducible rfl
   rotate_left; ·simp only [Act.put, Z1, Z2, Z3, i64_w, i32_w]; rfl
   refine pure_ (i := 2) (N := some 18) (v := ?_) (a' := ?_) (Bz 17 0x7) rfl rfl (any_of HT_.out (by kernel_rfl)) (fun _ _ _ h => h) (Or.inl ⟨by rfl, ?_⟩) ?_ ?_
   rotate_left
   ·intro w'; go_simp; with_reducible rfl
   rotate_left; ·simp only [Act.put, Z1, Z2, Z3, i64_w, i32_w]; rfl
   refine pure_ (i := 3) (N := some 19) (v := ?_) (a' := ?_) (Bz 17 0xf) rfl rfl (any_of HT_.out (by kernel_rfl)) (fun _ _ _ h => h) (Or.inl ⟨by rfl, ?_⟩) ?_ ?_
   rotate_left
   ·intro w'; go_simp; with_reducible rfl
   rotate_left; ·simp only [Act.put, Z1, Z2, Z3, i64_w, i32_w]; rfl
   refine pure_ (i := 5) (N := some 21) (v := ?_) (a' := ?_) (Bz 17 0x2f) rfl rfl (any_of HT_.out (by kernel_rfl)) (fun _ _ _ h => h) (Or.inl ⟨by rfl, ?_⟩) ?_ ?_
   rotate_left
   ·intro w'; go_simp; with_reducible rfl
   rotate_left; ·simp only [Act.put, Z1, Z2, Z3, i64_w, i32_w]; rfl
   refine pure_ (i := 6) (N := some 22) (v := ?_) (a' := ?_) (Bz 17 0x6f) rfl rfl (any_of HT_.out (by kernel_rfl)) (fun _ _ _ h => h) (Or.inl ⟨by rfl, ?_⟩) ?_ ?_
   rotate_left
   ·intro w'; go_simp; with_reducible rfl
   rotate_left; ·simp only [Act.put, Z1, Z2, Z3, i64_w, i32_w]; rfl
   refine pure_ (i := 7) (N := some 23) (v := ?_) (a' := ?_) (Bz 17 0xef) rfl rfl (any_of HT_.out (by kernel_rfl)) (fun _ _ _ h => h) (Or.inl ⟨by rfl, ?_⟩) ?_ ?_
   rotate_left
   ·intro w'; go_simp; with_reducible rfl
   rotate_left; ·simp only [Act.put, Z1, Z2, Z3, i64_w, i32_w]; rfl
   refine take_ (i := 4) (N := some 20) (v := ?_) (a' := ?_) (Bz 17 0xff) rfl rfl (take_ofW HT_.out HW_.out (by kernel_rfl)) (fun _ _ _ h => h) (Or.inl ⟨by rfl, ?_⟩) hHeld ?_ ?_
   rotate_left
   ·rintro w' ⟨s0, s1, s2⟩; go_simp; with_reducible rfl
   rotate_left; ·simp only [Act.put, Z1, Z2, Z3, i64_w, i32_w]; rfl
   refine take_ (i := 8) (N := some 24) (v := ?_) (a' := ?_) (Bz 17 0x1ff) rfl rfl (take_ofW HT_.out HW_.out (by kernel_rfl)) (fun _ _ _ h => h) (Or.inl ⟨by rfl, ?_⟩) hHeld ?_ ?_
   rotate_left
   ·rintro w' ⟨s0, s1, s2⟩; go_simp; with_reducible rfl
   rotate_left; ·simp only [Act.put, Z1, Z2, Z3, i64_w, i32_w]; rfl
   refine one_ (i := 9) (N := some 25) #[Y, Y, Y, Y, Y, Y, Y, Y, Y, Y, Yn, Yn, Yn, Yn, Yn, Yn, Yn] rfl rfl (one_of HT_.out (by kernel_rfl)) (by decide) (fun K hK => ?_)
   refine goesT_ Tryd.func73 (by kernel_rfl) rfl #[.string s0_0, .int .i64 s0_1] (by rfl) rfl rfl rfl (by (try simp only [List.map_toArray, List.map_cons, List.map_nil]); first | done | rfl | (simp only [List.length_drop, List.length_take]; rfl)) ?_
   with_reducible refine (codec_Reader_Unsigned_1.calls k s0_0 s0_1 t136 t137 false _ ?side99  A3.out).mono ?_
   (case side99 => first | exact HG.out | exact Glob.below HG.out (by repeat (first | (with_reducible first | exact HB.out | apply below_alloc | apply pw_below_drewN | apply below_drew1 | refine below_set ?_ (IsS102.ge HI0.out)) | exact HB.out)))
   rintro e w11 ⟨rfl, hb⟩
   refine ⟨_, rfl, ?_⟩
   have n0_ := Aside0.mk (IsS102.below (by repeat (first | (with_reducible first | exact HI0.out | apply IsS102.alloc | apply IsS102.drewN | apply IsS102.drew | apply IsS102.set_0 | apply IsS102.set_1 | apply IsS102.set_2) | exact HI0.out)) hb)
   have n1_ := Aside0.mk (KeepBut.trans (by repeat (first | (with_reducible first | exact HK.out | apply KeepBut.set_ | apply keep_drewN | apply keep_drew | apply keep_alloc) | exact HK.out)) (KeepBut.of_below hb g none) (.inl rfl))
   have n2_ := Aside0.mk (below_step (by repeat (first | (with_reducible first | exact HB.out | apply below_alloc | apply pw_below_drewN | apply below_drew1 | refine below_set ?_ (IsS102.ge HI0.out)) | exact HB.out)) hb)
   clear HI0
   clear HK
   clear HB
   have HI0 := n0_
   have HK := n1_
   have HB := n2_
   clear n0_ n1_ n2_
   (try clear hb)
   (try clear hb2)
   (try clear hk)
   (try clear hi)
   refine hK.out _ _ ⟨(blk_cell (Aside0.mk HI0.out.1).out 0).trans rfl, (blk_cell (Aside0.mk HI0.out.1).out 1).trans rfl, (blk_cell (Aside0.mk HI0.out.1).out 2).trans rfl⟩ (fun hHeld => ?_)
   clear hK K
   refine norm_ (a' := ?_) ?_ ?_
   rotate_left
   ·show Act.put _ (some 25) _ = _
    simp only [Act.put, Z1, Z2, Z3, i64_w, i32_w]
    rfl
   refine pure_ (i := 10) (N := some 15) (v := ?_) (a' := ?_) (Bz 17 0x7ff) rfl rfl (any_of HT_.out (by kernel_rfl)) (fun _ _ _ h => h) (Or.inl ⟨by rfl, ?_⟩) ?_ ?_
   rotate_left
   ·intro w'; go_simp; with_reducible rfl
   rotate_left; ·simp only [Act.put, Z1, Z2, Z3, i64_w, i32_w]; rfl
   refine pure_ (i := 11) (N := some 26) (v := ?_) (a' := ?_) (Bz 17 0xfff) rfl rfl (any_of HT_.out (by kernel_rfl)) (fun _ _ _ h => h) (Or.inl ⟨by rfl, ?_⟩) ?_ ?_
   rotate_left
   ·intro w'; go_simp; with_reducible rfl
   rotate_left; ·simp only [Act.put, Z1, Z2, Z3, i64_w, i32_w]; rfl
   refine pure_ (i := 12) (N := some 27) (v := ?_) (a' := ?_) (Bz 17 0x1fff) rfl rfl (any_of HT_.out (by kernel_rfl)) (fun _ _ _ h => h) (Or.inl ⟨by rfl, ?_⟩) ?_ ?_
   rotate_left
   ·intro w'; go_simp; with_reducible rfl
   rotate_left; ·simp only [Act.put, Z1, Z2, Z3, i64_w, i32_w]; rfl
   refine pure_ (i := 13) (N := some 28) (v := ?_) (a' := ?_) (Bz 17 0x3fff) rfl rfl (any_of HT_.out (by kernel_rfl)) (fun _ _ _ h => h) (Or.inl ⟨by rfl, ?_⟩) ?_ ?_
   rotate_left
   ·intro w'; go_simp; with_reducible rfl
   rotate_left; ·simp only [Act.put, Z1, Z2, Z3, i64_w, i32_w]; rfl
   refine pure_ (i := 14) (N := some 6) (v := ?_) (a' := ?_) (Bz 17 0x7fff) rfl rfl (any_of HT_.out (by kernel_rfl)) (fun _ _ _ h => h) (Or.inl ⟨by rfl, ?_⟩) ?_ ?_
   rotate_left
   ·intro w'; go_simp; with_reducible rfl
   rotate_left; ·simp only [Act.put, Z1, Z2, Z3, i64_w, i32_w]; rfl
   refine pure_ (i := 15) (N := some 7) (v := ?_) (a' := ?_) (Bz 17 0xffff) rfl rfl (any_of HT_.out (by kernel_rfl)) (fun _ _ _ h => h) (Or.inl ⟨by rfl, ?_⟩) ?_ ?_
   rotate_left
   ·intro w'; go_simp; with_reducible rfl
   rotate_left; ·simp only [Act.put, Z1, Z2, Z3, i64_w, i32_w]; rfl
   refine pure_ (i := 16) (N := some 8) (v := ?_) (a' := ?_) (Bz 17 0x1ffff) rfl rfl (any_of HT_.out (by kernel_rfl)) (fun _ _ _ h => h) (Or.inl ⟨by rfl, ?_⟩) ?_ ?_
   rotate_left
   ·intro w'; go_simp; with_reducible rfl
   rotate_left; ·simp only [Act.put, Z1, Z2, Z3, i64_w, i32_w]; rfl
   refine done_ (done_of HT_.out (by kernel_rfl)) ?_
   obtain ⟨HGz12, hgz12⟩ := HI0.out
   have hcz12_0 := cellS102_0 HGz12
   have hcz12_1 := cellS102_1 HGz12
   have hcz12_2 := cellS102_2 HGz12
   have hfz12_0 := blk_frozen HGz12 0
   have hfz12_1 := blk_frozen HGz12 1
   have hfz12_2 := blk_frozen HGz12 2
   clear HGz12 hgz12
   try go_wp2_with (first | (go_at_call 62; go_in) | ((try simp only [Exit.inBlock, Exit.then]); refine bodyPost_end (results_none rfl _ _ _) rfl ?_; simp only []; go_at_K))
   go_ret
   exact ⟨by first | rfl | (simp [errW_none, errW_some] <;> rfl) | (simp [*, errW_none, errW_some] <;> rfl), by repeat (first | (with_reducible first | exact HI0.out | apply IsS102.alloc | apply IsS102.drewN | apply IsS102.drew | apply IsS102.set_0 | apply IsS102.set_1 | apply IsS102.set_2) | exact HI0.out), by repeat (first | (with_reducible first | exact HB.out | apply below_alloc | apply pw_below_drewN | apply below_drew1 | refine below_set ?_ (IsS102.ge HI0.out)) | exact HB.out), by repeat (first | (with_reducible first | exact HK.out | apply KeepBut.set_ | apply keep_drewN | apply keep_drew | apply keep_alloc) | exact HK.out)⟩
 ·rw [if_neg c2] at H
  have c2b0 : (s0_2 == 0) = false := beq_eq_false_iff_ne.mpr c2
  have c2b1 : (s0_2 != 0) = true := bne_iff_ne.mpr c2
  simp only [Option.some.injEq, Prod.mk.injEq] at H
  obtain ⟨rfl, rfl, rfl, rfl⟩ := H
  obtain ⟨HGz13, hgz13⟩ := HI0.out
  have hcz13_0 := cellS102_0 HGz13
  have hcz13_1 := cellS102_1 HGz13
  have hcz13_2 := cellS102_2 HGz13
  have hfz13_0 := blk_frozen HGz13 0
  have hfz13_1 := blk_frozen HGz13 1
  have hfz13_2 := blk_frozen HGz13 2
  clear HGz13 hgz13
  go_enter Tryd.func59, Tryd.ntmps59
  go_wp2_with (first | (go_at_call 62; go_in) | ((try simp only [Exit.inBlock, Exit.then]); refine bodyPost_end (results_none rfl _ _ _) rfl ?_; simp only []; go_at_K))
  go_ret
  exact ⟨by first | rfl | (simp [errW_none, errW_some] <;> rfl) | (simp [*, errW_none, errW_some] <;> rfl), by repeat (first | (with_reducible first | exact HI0.out | apply IsS102.alloc | apply IsS102.drewN | apply IsS102.drew | apply IsS102.set_0 | apply IsS102.set_1 | apply IsS102.set_2) | exact HI0.out), by repeat (first | (with_reducible first | exact HB.out | apply below_alloc | apply pw_below_drewN | apply below_drew1 | refine below_set ?_ (IsS102.ge HI0.out)) | exact HB.out), by repeat (first | (with_reducible first | exact HK.out | apply KeepBut.set_ | apply keep_drewN | apply keep_drew | apply keep_alloc) | exact HK.out)⟩
end Go.Proofs.YtbccjcdmpiolpaaDoor.T
end
section
namespace Go.Proofs.YtbccjcdmpiolpaaDoor.T
open Go.RowKit Go.Proofs.YtbccjcdmpiolpaaDoorW.PrintWords Go.Proofs.YtbccjcdmpiolpaaDoorW.PrintLast Go.Proofs.YtbccjcdmpiolpaaDoorW.PrintMore
attribute [local go_sem] max2_int min2_int max_two min_two max_three min_three max_four min_four
set_option linter.unusedVariables false
set_option linter.unusedSimpArgs false
def codec_Reader_Signed_1.f (k : Nat) (a0 : ByteArray) (a1 : Int) : Option (Int × Int × Bool) := (codec_raw.f k a0 a1 4).bind fun bt139 => (some (bt139.1, bt139.2.1, bt139.2.2))
set_option maxHeartbeats 8000000 in
set_option maxRecDepth 100000 in
theorem codec_Reader_Signed_1.calls (k : Nat) (a0 : ByteArray) (a1 : Int) (r1 : Int) (r2 : Int) (r3 : Bool) (w : World) (hG : Glob w) (h : codec_Reader_Signed_1.f k a0 a1 = some (r1, r2, r3)) :
  Calls Tryd.prog 63 #[.string a0, .int .i64 a1] w fun e w' => e = .returned (.tuple #[.int .u64 r1, .int .i64 r2, .bool r3]) ∧ Below w.heap.size w w' := by
 have HG := Aside0.mk hG
 clear hG
 have HB := Aside0.mk (Below.refl w.heap.size w)
 have H : ((codec_raw.f k a0 a1 4).bind fun bt139 => (some (bt139.1, bt139.2.1, bt139.2.2))) = some (r1, r2, r3) := h
 clear h
 replace H := Option.bind_eq_some_iff.mp H
 obtain ⟨⟨t139, t140, t141⟩, A30, H⟩ := H
 replace H : (some (t139, t140, t141)) = some (r1, r2, r3) := H
 have A3 := Aside0.mk A30
 clear A30
 simp only [Option.some.injEq, Prod.mk.injEq] at H
 obtain ⟨rfl, rfl, rfl⟩ := H
 go_enter Tryd.func63, Tryd.ntmps63
 go_wp2_with (first | ((with_reducible refine gate_callee (f := 64) rfl ?_); refine goesL_ (some 9) rfl rfl Tryd.func64 (by kernel_rfl) rfl #[.string a0, .int .i64 a1, .int .i64 4] rfl (by (try simp only [List.map_toArray, List.map_cons, List.map_nil]); first | done | rfl | (simp only [List.length_drop, List.length_take]; rfl)) ?_; (with_reducible refine (codec_raw.calls k a0 a1 4 t139 t140 t141 _ ?side99  A3.out).mono ?_); (case side99 => first | exact HG.out | exact Glob.below HG.out (by repeat (first | (with_reducible first | exact HB.out | apply below_alloc | apply pw_below_drewN | apply below_drew1) | exact HB.out))); rintro e w4 ⟨rfl, hb⟩; refine ⟨_, rfl, ?_⟩; have n0_ := Aside0.mk (below_step (by repeat (first | (with_reducible first | exact HB.out | apply below_alloc | apply pw_below_drewN | apply below_drew1) | exact HB.out)) hb); clear HB; have HB := n0_; clear n0_; (try clear hb); (try clear hb2); (try clear hk); (try clear hi)))
 go_ret3
 exact ⟨by first | rfl | (simp [errW_none, errW_some] <;> rfl) | (simp [*, errW_none, errW_some] <;> rfl), by repeat (first | (with_reducible first | exact HB.out | apply below_alloc | apply pw_below_drewN | apply below_drew1) | exact HB.out)⟩
end Go.Proofs.YtbccjcdmpiolpaaDoor.T
end
section
namespace Go.Proofs.YtbccjcdmpiolpaaDoor.T
open Go.RowKit Go.Proofs.YtbccjcdmpiolpaaDoorW.PrintWords Go.Proofs.YtbccjcdmpiolpaaDoorW.PrintLast Go.Proofs.YtbccjcdmpiolpaaDoorW.PrintMore
attribute [local go_sem] max2_int min2_int max_two min_two max_three min_three max_four min_four
set_option linter.unusedVariables false
set_option linter.unusedSimpArgs false
def codec_Reader_Signed.f (k : Nat) (s0_0 : ByteArray) (s0_1 : Int) (s0_2 : Int) : Option (Int × ByteArray × Int × Int) := if s0_2 = 0 then ((codec_Reader_Signed_1.f k s0_0 s0_1).bind fun bt142 => (if bt142.2.2 = true then (some (wrap64 (bt142.1), s0_0, bt142.2.1, s0_2)) else (some (0, s0_0, s0_1, 2)))) else (some (0, s0_0, s0_1, s0_2))
def codec_Reader_Signed.T62004 : Bool × List (List Nat × List Nat) := (true, [([], []), ([], []), ([1], [1]), ([2], [2]), ([3], [3]), ([], []), ([5], [5]), ([6], [6]), ([7], [7]), ([0, 4, 8], [0, 4, 8]), ([9], [9]), ([10], [10]), ([10], [10]), ([10], [10]), ([11, 9, 0, 1, 2, 3, 4, 5, 6, 7, 8, 9, 10, 11], [11]), ([12, 14, 0, 1, 2, 3, 4, 5, 6, 7, 8, 9, 10, 11, 12, 14], [12]), ([13, 15, 0, 1, 2, 3, 4, 5, 6, 7, 8, 9, 10, 11, 12, 13, 14, 15], [13])])
def codec_Reader_Signed.B62004 : List Nat := [0, 0, 2, 6, 14, 0, 32, 96, 224, 511, 1023, 2047, 2047, 2047, 4095, 24575, 65535]
theorem codec_Reader_Signed.tab62004 : rtab .any (opsOf Tryd.f62 4) = codec_Reader_Signed.T62004 := by kernel_rfl
theorem codec_Reader_Signed.bits62004 : waitsOk codec_Reader_Signed.T62004.2 codec_Reader_Signed.B62004 = true := by kernel_rfl
set_option maxHeartbeats 8000000 in
set_option maxRecDepth 100000 in
theorem codec_Reader_Signed.calls (k : Nat) (g : Nat) (s0_0 : ByteArray) (s0_1 : Int) (s0_2 : Int) (r1 : Int) (r2 : ByteArray) (r3 : Int) (r4 : Int) (w0 w : World) (hG : Glob w0) (hI : IsS102 w0 w g s0_0 s0_1 s0_2) (hB : Below w0.heap.size w0 w) (h : codec_Reader_Signed.f k s0_0 s0_1 s0_2 = some (r1, r2, r3, r4)) :
  Calls Tryd.prog 39 #[.pointer (some ⟨g, 0, none⟩)] w fun e w' => e = .returned (.int .i64 r1) ∧ IsS102 w0 w' g r2 r3 r4 ∧ Below w0.heap.size w0 w' ∧ KeepBut w w' g none := by
 have hmf_ : ∀ (fn : Fn) (first cap : Array Value) (w : World), (Instr.makeFunc fn first cap).run Tryd.prog w = .ok (.func fn first cap) w := fun _ _ _ _ => rfl
 have HG := Aside0.mk hG
 clear hG
 have HI0 := Aside0.mk hI
 have HK := Aside0.mk (KeepBut.refl w g none)
 have HL := Aside0.mk hB.size
 clear hI
 have HW0 := Aside0.mk hB.size
 have HB := Aside0.mk hB
 clear hB
 have H : (if s0_2 = 0 then ((codec_Reader_Signed_1.f k s0_0 s0_1).bind fun bt142 => (if bt142.2.2 = true then (some (wrap64 (bt142.1), s0_0, bt142.2.1, s0_2)) else (some (0, s0_0, s0_1, 2)))) else (some (0, s0_0, s0_1, s0_2))) = some (r1, r2, r3, r4) := h
 clear h
 by_cases c2 : s0_2 = 0
 ·rw [if_pos c2] at H
  have c2b0 : (s0_2 == 0) = true := beq_iff_eq.mpr c2
  have c2b1 : (s0_2 != 0) = false := bne_eq_false_iff_eq.mpr c2
  clear c2
  replace H := Option.bind_eq_some_iff.mp H
  obtain ⟨⟨t142, t143, t144⟩, A30, H⟩ := H
  replace H : (if t144 = true then (some (wrap64 (t142), s0_0, t143, s0_2)) else (some (0, s0_0, s0_1, 2))) = some (r1, r2, r3, r4) := H
  have A3 := Aside0.mk A30
  clear A30
  by_cases c4 : t144 = true
  ·subst c4
   have H1 : (some (wrap64 (t142), s0_0, t143, s0_2)) = some (r1, r2, r3, r4) := by rw [if_pos rfl] at H; exact H
   clear H
   have H := H1
   clear H1
   simp only [Option.some.injEq, Prod.mk.injEq] at H
   obtain ⟨rfl, rfl, rfl, rfl⟩ := H
   obtain ⟨HGz5, hgz5⟩ := HI0.out
   have hcz5_0 := cellS102_0 HGz5
   have hcz5_1 := cellS102_1 HGz5
   have hcz5_2 := cellS102_2 HGz5
   have hfz5_0 := blk_frozen HGz5 0
   have hfz5_1 := blk_frozen HGz5 1
   have hfz5_2 := blk_frozen HGz5 2
   clear HGz5 hgz5
   go_enter Tryd.func39, Tryd.ntmps39
   try go_wp2_with (first | (go_at_call 62; go_in) | ((try simp only [Exit.inBlock, Exit.then]); refine bodyPost_end (results_none rfl _ _ _) rfl ?_; simp only []; go_at_K))
   have n0_ := Aside0.mk (IsS102.drew HI0.out)
   have n1_ := Aside0.mk (keep_drew HK.out)
   have n2_ := Aside0.mk (below_drew1 HB.out)
   clear HI0
   clear HK
   clear HB
   have HI0 := n0_
   have HK := n1_
   have HB := n2_
   clear n0_ n1_ n2_
   refine start_ (n := 17) (S := fun w' => w'.cell? ⟨g, 0, none⟩ = some (.string s0_0) ∧ w'.cell? ⟨g, 1, none⟩ = some (.int .i64 s0_1) ∧ w'.cell? ⟨g, 2, none⟩ = some (.int .i64 s0_2)) (ds := []) #[Yn, Yn, Yn, Yn, Yn, Yn, Yn, Yn, Yn, Yn, Yn, Yn, Yn, Yn, Yn, Yn, Yn] (by kernel_rfl) rfl rfl ⟨(blk_cell (Aside0.mk HI0.out.1).out 0).trans rfl, (blk_cell (Aside0.mk HI0.out.1).out 1).trans rfl, (blk_cell (Aside0.mk HI0.out.1).out 2).trans rfl⟩ (fun hHeld => ?_); refine with_tabW codec_Reader_Signed.tab62004 codec_Reader_Signed.bits62004 (fun HT_ HW_ => ?_)
   generalize w.drew = w6 at HI0 HK HB hHeld ⊢
   refine pure_ (i := 0) (N := some 16) (v := ?_) (a' := ?_) (Bz 17 0x1) rfl rfl (any_of HT_.out (by kernel_rfl)) (fun _ _ _ h => h) (Or.inl ⟨by rfl, ?_⟩) ?_ ?_
   rotate_left
   ·intro w'; go_simp; with_reducible rfl
   rotate_left; ·simp only [Act.put, Z1, Z2, Z3, i64_w, i32_w]; rfl
   refine pure_ (i := 1) (N := some 17) (v := ?_) (a' := ?_) (Bz 17 0x3) rfl rfl (any_of HT_.out (by kernel_rfl)) (fun _ _ _ h => h) (Or.inl ⟨by rfl, ?_⟩) ?_ ?_
   rotate_left
   ·intro w'; go_simp; with_reducible rfl
   rotate_left; ·simp only [Act.put, Z1, Z2, Z3, i64_w, i32_w]; rfl
   refine pure_ (i := 2) (N := some 18) (v := ?_) (a' := ?_) (Bz 17 0x7) rfl rfl (any_of HT_.out (by kernel_rfl)) (fun _ _ _ h => h) (Or.inl ⟨by rfl, ?_⟩) ?_ ?_
   rotate_left
   ·intro w'; go_simp; with_reducible rfl
   rotate_left; ·simp only [Act.put, Z1, Z2, Z3, i64_w, i32_w]; rfl
   refine pure_ (i := 3) (N := some 19) (v := ?_) (a' := ?_) (Bz 17 0xf) rfl rfl (any_of HT_.out (by kernel_rfl)) (fun _ _ _ h => h) (Or.inl ⟨by rfl, ?_⟩) ?_ ?_
   rotate_left
   ·intro w'; go_simp; with_reducible rfl
   rotate_left; ·simp only [Act.put, Z1, Z2, Z3, i64_w, i32_w]; rfl
   refine pure_ (i := 5) (N := some 21) (v := ?_) (a' := ?_) (Bz 17 0x2f) rfl rfl (any_of HT_.out (by kernel_rfl)) (fun _ _ _ h => h) (Or.inl ⟨by rfl, ?_⟩) ?_ ?_
   rotate_left
   ·intro w'; go_simp; with_reducible rfl
   rotate_left; ·simp only [Act.put, Z1, Z2, Z3, i64_w, i32_w]; rfl
   refine pure_ (i := 6) (N := some 22) (v := ?_) (a' := ?_) (Bz 17 0x6f) rfl rfl (any_of HT_.out (by kernel_rfl)) (fun _ _ _ h => h) (Or.inl ⟨by rfl, ?_⟩) ?_ ?_
   rotate_left
   ·intro w'; go_simp; with_reducible rfl
   rotate_left; ·simp only [Act.put, Z1, Z2, Z3, i64_w, i32_w]; rfl
   refine pure_ (i := 7) (N := some 23) (v := ?_) (a' := ?_) (Bz 17 0xef) rfl rfl (any_of HT_.out (by kernel_rfl)) (fun _ _ _ h => h) (Or.inl ⟨by rfl, ?_⟩) ?_ ?_
   rotate_left
   ·intro w'; go_simp; with_reducible rfl
   rotate_left; ·simp only [Act.put, Z1, Z2, Z3, i64_w, i32_w]; rfl
   refine take_ (i := 4) (N := some 20) (v := ?_) (a' := ?_) (Bz 17 0xff) rfl rfl (take_ofW HT_.out HW_.out (by kernel_rfl)) (fun _ _ _ h => h) (Or.inl ⟨by rfl, ?_⟩) hHeld ?_ ?_
   rotate_left
   ·rintro w' ⟨s0, s1, s2⟩; go_simp; with_reducible rfl
   rotate_left; ·simp only [Act.put, Z1, Z2, Z3, i64_w, i32_w]; rfl
   refine take_ (i := 8) (N := some 24) (v := ?_) (a' := ?_) (Bz 17 0x1ff) rfl rfl (take_ofW HT_.out HW_.out (by kernel_rfl)) (fun _ _ _ h => h) (Or.inl ⟨by rfl, ?_⟩) hHeld ?_ ?_
   rotate_left
   ·rintro w' ⟨s0, s1, s2⟩; go_simp; with_reducible rfl
   rotate_left; ·simp only [Act.put, Z1, Z2, Z3, i64_w, i32_w]; rfl
   refine one_ (i := 9) (N := some 25) #[Y, Y, Y, Y, Y, Y, Y, Y, Y, Y, Yn, Yn, Yn, Yn, Yn, Yn, Yn] rfl rfl (one_of HT_.out (by kernel_rfl)) (by decide) (fun K hK => ?_)
   refine goesT_ Tryd.func63 (by kernel_rfl) rfl #[.string s0_0, .int .i64 s0_1] (by rfl) rfl rfl rfl (by (try simp only [List.map_toArray, List.map_cons, List.map_nil]); first | done | rfl | (simp only [List.length_drop, List.length_take]; rfl)) ?_
   with_reducible refine (codec_Reader_Signed_1.calls k s0_0 s0_1 t142 t143 true _ ?side99  A3.out).mono ?_
   (case side99 => first | exact HG.out | exact Glob.below HG.out (by repeat (first | (with_reducible first | exact HB.out | apply below_alloc | apply pw_below_drewN | apply below_drew1 | refine below_set ?_ (IsS102.ge HI0.out)) | exact HB.out)))
   rintro e w7 ⟨rfl, hb⟩
   refine ⟨_, rfl, ?_⟩
   have n0_ := Aside0.mk (IsS102.below (by repeat (first | (with_reducible first | exact HI0.out | apply IsS102.alloc | apply IsS102.drewN | apply IsS102.drew | apply IsS102.set_0 | apply IsS102.set_1 | apply IsS102.set_2) | exact HI0.out)) hb)
   have n1_ := Aside0.mk (KeepBut.trans (by repeat (first | (with_reducible first | exact HK.out | apply KeepBut.set_ | apply keep_drewN | apply keep_drew | apply keep_alloc) | exact HK.out)) (KeepBut.of_below hb g none) (.inl rfl))
   have n2_ := Aside0.mk (below_step (by repeat (first | (with_reducible first | exact HB.out | apply below_alloc | apply pw_below_drewN | apply below_drew1 | refine below_set ?_ (IsS102.ge HI0.out)) | exact HB.out)) hb)
   clear HI0
   clear HK
   clear HB
   have HI0 := n0_
   have HK := n1_
   have HB := n2_
   clear n0_ n1_ n2_
   (try clear hb)
   (try clear hb2)
   (try clear hk)
   (try clear hi)
   refine hK.out _ _ ⟨(blk_cell (Aside0.mk HI0.out.1).out 0).trans rfl, (blk_cell (Aside0.mk HI0.out.1).out 1).trans rfl, (blk_cell (Aside0.mk HI0.out.1).out 2).trans rfl⟩ (fun hHeld => ?_)
   clear hK K
   refine norm_ (a' := ?_) ?_ ?_
   rotate_left
   ·show Act.put _ (some 25) _ = _
    simp only [Act.put, Z1, Z2, Z3, i64_w, i32_w]
    rfl
   refine pure_ (i := 10) (N := some 15) (v := ?_) (a' := ?_) (Bz 17 0x7ff) rfl rfl (any_of HT_.out (by kernel_rfl)) (fun _ _ _ h => h) (Or.inl ⟨by rfl, ?_⟩) ?_ ?_
   rotate_left
   ·intro w'; go_simp; with_reducible rfl
   rotate_left; ·simp only [Act.put, Z1, Z2, Z3, i64_w, i32_w]; rfl
   refine pure_ (i := 11) (N := some 26) (v := ?_) (a' := ?_) (Bz 17 0xfff) rfl rfl (any_of HT_.out (by kernel_rfl)) (fun _ _ _ h => h) (Or.inl ⟨by rfl, ?_⟩) ?_ ?_
   rotate_left
   ·intro w'; go_simp; with_reducible rfl
   rotate_left; ·simp only [Act.put, Z1, Z2, Z3, i64_w, i32_w]; rfl
   refine pure_ (i := 12) (N := some 27) (v := ?_) (a' := ?_) (Bz 17 0x1fff) rfl rfl (any_of HT_.out (by kernel_rfl)) (fun _ _ _ h => h) (Or.inl ⟨by rfl, ?_⟩) ?_ ?_
   rotate_left
   ·intro w'; go_simp; with_reducible rfl
   rotate_left; ·simp only [Act.put, Z1, Z2, Z3, i64_w, i32_w]; rfl
   refine pure_ (i := 13) (N := some 28) (v := ?_) (a' := ?_) (Bz 17 0x3fff) rfl rfl (any_of HT_.out (by kernel_rfl)) (fun _ _ _ h => h) (Or.inl ⟨by rfl, ?_⟩) ?_ ?_
   rotate_left
   ·intro w'; go_simp; with_reducible rfl
   rotate_left; ·simp only [Act.put, Z1, Z2, Z3, i64_w, i32_w]; rfl
   refine pure_ (i := 14) (N := some 6) (v := ?_) (a' := ?_) (Bz 17 0x7fff) rfl rfl (any_of HT_.out (by kernel_rfl)) (fun _ _ _ h => h) (Or.inl ⟨by rfl, ?_⟩) ?_ ?_
   rotate_left
   ·intro w'; go_simp; with_reducible rfl
   rotate_left; ·simp only [Act.put, Z1, Z2, Z3, i64_w, i32_w]; rfl
   refine pure_ (i := 15) (N := some 7) (v := ?_) (a' := ?_) (Bz 17 0xffff) rfl rfl (any_of HT_.out (by kernel_rfl)) (fun _ _ _ h => h) (Or.inl ⟨by rfl, ?_⟩) ?_ ?_
   rotate_left
   ·intro w'; go_simp; with_reducible rfl
   rotate_left; ·simp only [Act.put, Z1, Z2, Z3, i64_w, i32_w]; rfl
   refine pure_ (i := 16) (N := some 8) (v := ?_) (a' := ?_) (Bz 17 0x1ffff) rfl rfl (any_of HT_.out (by kernel_rfl)) (fun _ _ _ h => h) (Or.inl ⟨by rfl, ?_⟩) ?_ ?_
   rotate_left
   ·intro w'; go_simp; with_reducible rfl
   rotate_left; ·simp only [Act.put, Z1, Z2, Z3, i64_w, i32_w]; rfl
   refine done_ (done_of HT_.out (by kernel_rfl)) ?_
   obtain ⟨HGz8, hgz8⟩ := HI0.out
   have hcz8_0 := cellS102_0 HGz8
   have hcz8_1 := cellS102_1 HGz8
   have hcz8_2 := cellS102_2 HGz8
   have hfz8_0 := blk_frozen HGz8 0
   have hfz8_1 := blk_frozen HGz8 1
   have hfz8_2 := blk_frozen HGz8 2
   clear HGz8 hgz8
   try go_wp2_with (first | (go_at_call 62; go_in) | ((try simp only [Exit.inBlock, Exit.then]); refine bodyPost_end (results_none rfl _ _ _) rfl ?_; simp only []; go_at_K))
   go_ret
   exact ⟨by first | rfl | (simp [errW_none, errW_some] <;> rfl) | (simp [*, errW_none, errW_some] <;> rfl), by repeat (first | (with_reducible first | exact HI0.out | apply IsS102.alloc | apply IsS102.drewN | apply IsS102.drew | apply IsS102.set_0 | apply IsS102.set_1 | apply IsS102.set_2) | exact HI0.out), by repeat (first | (with_reducible first | exact HB.out | apply below_alloc | apply pw_below_drewN | apply below_drew1 | refine below_set ?_ (IsS102.ge HI0.out)) | exact HB.out), by repeat (first | (with_reducible first | exact HK.out | apply KeepBut.set_ | apply keep_drewN | apply keep_drew | apply keep_alloc) | exact HK.out)⟩
  ·replace c4 := Bool.eq_false_iff.mpr c4
   subst c4
   have H1 : (some (0, s0_0, s0_1, 2)) = some (r1, r2, r3, r4) := by rw [if_neg (show ¬ (false = true) by decide)] at H; exact H
   clear H
   have H := H1
   clear H1
   simp only [Option.some.injEq, Prod.mk.injEq] at H
   obtain ⟨rfl, rfl, rfl, rfl⟩ := H
   obtain ⟨HGz9, hgz9⟩ := HI0.out
   have hcz9_0 := cellS102_0 HGz9
   have hcz9_1 := cellS102_1 HGz9
   have hcz9_2 := cellS102_2 HGz9
   have hfz9_0 := blk_frozen HGz9 0
   have hfz9_1 := blk_frozen HGz9 1
   have hfz9_2 := blk_frozen HGz9 2
   clear HGz9 hgz9
   go_enter Tryd.func39, Tryd.ntmps39
   try go_wp2_with (first | (go_at_call 62; go_in) | ((try simp only [Exit.inBlock, Exit.then]); refine bodyPost_end (results_none rfl _ _ _) rfl ?_; simp only []; go_at_K))
   have n0_ := Aside0.mk (IsS102.drew HI0.out)
   have n1_ := Aside0.mk (keep_drew HK.out)
   have n2_ := Aside0.mk (below_drew1 HB.out)
   clear HI0
   clear HK
   clear HB
   have HI0 := n0_
   have HK := n1_
   have HB := n2_
   clear n0_ n1_ n2_
   refine start_ (n := 17) (S := fun w' => w'.cell? ⟨g, 0, none⟩ = some (.string s0_0) ∧ w'.cell? ⟨g, 1, none⟩ = some (.int .i64 s0_1) ∧ w'.cell? ⟨g, 2, none⟩ = some (.int .i64 s0_2)) (ds := []) #[Yn, Yn, Yn, Yn, Yn, Yn, Yn, Yn, Yn, Yn, Yn, Yn, Yn, Yn, Yn, Yn, Yn] (by kernel_rfl) rfl rfl ⟨(blk_cell (Aside0.mk HI0.out.1).out 0).trans rfl, (blk_cell (Aside0.mk HI0.out.1).out 1).trans rfl, (blk_cell (Aside0.mk HI0.out.1).out 2).trans rfl⟩ (fun hHeld => ?_); refine with_tabW codec_Reader_Signed.tab62004 codec_Reader_Signed.bits62004 (fun HT_ HW_ => ?_)
   generalize w.drew = w10 at HI0 HK HB hHeld ⊢
   refine pure_ (i := 0) (N := some 16) (v := ?_) (a' := ?_) (Bz 17 0x1) rfl rfl (any_of HT_.out (by kernel_rfl)) (fun _ _ _ h => h) (Or.inl ⟨by rfl, ?_⟩) ?_ ?_
   rotate_left
   ·intro w'; go_simp; with_reducible rfl
   rotate_left; ·simp only [Act.put, Z1, Z2, Z3, i64_w, i32_w]; rfl
   refine pure_ (i := 1) (N := some 17) (v := ?_) (a' := ?_) (Bz 17 0x3) rfl rfl (any_of HT_.out (by kernel_rfl)) (fun _ _ _ h => h) (Or.inl ⟨by rfl, ?_⟩) ?_ ?_
   rotate_left
   ·intro w'; go_simp; with_reducible rfl
   rotate_left; ·simp only [Act.put, Z1, Z2, Z3, i64_w, i32_w]; rfl
   refine pure_ (i := 2) (N := some 18) (v := ?_) (a' := ?_) (Bz 17 0x7) rfl rfl (any_of HT_.out (by kernel_rfl)) (fun _ _ _ h => h) (Or.inl ⟨by rfl, ?_⟩) ?_ ?_
   rotate_left
   ·intro w'; go_simp; with_reducible rfl
   rotate_left; ·simp only [Act.put, Z1, Z2, Z3, i64_w, i32_w]; rfl
   refine pure_ (i := 3) (N := some 19) (v := ?_) (a' := ?_) (Bz 17 0xf) rfl rfl (any_of HT_.out (by kernel_rfl)) (fun _ _ _ h => h) (Or.inl ⟨by rfl, ?_⟩) ?_ ?_
   rotate_left
   ·intro w'; go_simp; with_reducible rfl
   rotate_left; ·simp only [Act.put, Z1, Z2, Z3, i64_w, i32_w]; rfl
   refine pure_ (i := 5) (N := some 21) (v := ?_) (a' := ?_) (Bz 17 0x2f) rfl rfl (any_of HT_.out (by kernel_rfl)) (fun _ _ _ h => h) (Or.inl ⟨by rfl, ?_⟩) ?_ ?_
   rotate_left
   ·intro w'; go_simp; with_reducible rfl
   rotate_left; ·simp only [Act.put, Z1, Z2, Z3, i64_w, i32_w]; rfl
   refine pure_ (i := 6) (N := some 22) (v := ?_) (a' := ?_) (Bz 17 0x6f) rfl rfl (any_of HT_.out (by kernel_rfl)) (fun _ _ _ h => h) (Or.inl ⟨by rfl, ?_⟩) ?_ ?_
   rotate_left
   ·intro w'; go_simp; with_reducible rfl
   rotate_left; ·simp only [Act.put, Z1, Z2, Z3, i64_w, i32_w]; rfl
   refine pure_ (i := 7) (N := some 23) (v := ?_) (a' := ?_) (Bz 17 0xef) rfl rfl (any_of HT_.out (by kernel_rfl)) (fun _ _ _ h => h) (Or.inl ⟨by rfl, ?_⟩) ?_ ?_
   rotate_left
   ·intro w'; go_simp; with_reducible rfl
   rotate_left; ·simp only [Act.put, Z1, Z2, Z3, i64_w, i32_w]; rfl
   refine take_ (i := 4) (N := some 20) (v := ?_) (a' := ?_) (Bz 17 0xff) rfl rfl (take_ofW HT_.out HW_.out (by kernel_rfl)) (fun _ _ _ h => h) (Or.inl ⟨by rfl, ?_⟩) hHeld ?_ ?_
   rotate_left
   ·rintro w' ⟨s0, s1, s2⟩; go_simp; with_reducible rfl
   rotate_left; ·simp only [Act.put, Z1, Z2, Z3, i64_w, i32_w]; rfl
   refine take_ (i := 8) (N := some 24) (v := ?_) (a' := ?_) (Bz 17 0x1ff) rfl rfl (take_ofW HT_.out HW_.out (by kernel_rfl)) (fun _ _ _ h => h) (Or.inl ⟨by rfl, ?_⟩) hHeld ?_ ?_
   rotate_left
   ·rintro w' ⟨s0, s1, s2⟩; go_simp; with_reducible rfl
   rotate_left; ·simp only [Act.put, Z1, Z2, Z3, i64_w, i32_w]; rfl
   refine one_ (i := 9) (N := some 25) #[Y, Y, Y, Y, Y, Y, Y, Y, Y, Y, Yn, Yn, Yn, Yn, Yn, Yn, Yn] rfl rfl (one_of HT_.out (by kernel_rfl)) (by decide) (fun K hK => ?_)
   refine goesT_ Tryd.func63 (by kernel_rfl) rfl #[.string s0_0, .int .i64 s0_1] (by rfl) rfl rfl rfl (by (try simp only [List.map_toArray, List.map_cons, List.map_nil]); first | done | rfl | (simp only [List.length_drop, List.length_take]; rfl)) ?_
   with_reducible refine (codec_Reader_Signed_1.calls k s0_0 s0_1 t142 t143 false _ ?side99  A3.out).mono ?_
   (case side99 => first | exact HG.out | exact Glob.below HG.out (by repeat (first | (with_reducible first | exact HB.out | apply below_alloc | apply pw_below_drewN | apply below_drew1 | refine below_set ?_ (IsS102.ge HI0.out)) | exact HB.out)))
   rintro e w11 ⟨rfl, hb⟩
   refine ⟨_, rfl, ?_⟩
   have n0_ := Aside0.mk (IsS102.below (by repeat (first | (with_reducible first | exact HI0.out | apply IsS102.alloc | apply IsS102.drewN | apply IsS102.drew | apply IsS102.set_0 | apply IsS102.set_1 | apply IsS102.set_2) | exact HI0.out)) hb)
   have n1_ := Aside0.mk (KeepBut.trans (by repeat (first | (with_reducible first | exact HK.out | apply KeepBut.set_ | apply keep_drewN | apply keep_drew | apply keep_alloc) | exact HK.out)) (KeepBut.of_below hb g none) (.inl rfl))
   have n2_ := Aside0.mk (below_step (by repeat (first | (with_reducible first | exact HB.out | apply below_alloc | apply pw_below_drewN | apply below_drew1 | refine below_set ?_ (IsS102.ge HI0.out)) | exact HB.out)) hb)
   clear HI0
   clear HK
   clear HB
   have HI0 := n0_
   have HK := n1_
   have HB := n2_
   clear n0_ n1_ n2_
   (try clear hb)
   (try clear hb2)
   (try clear hk)
   (try clear hi)
   refine hK.out _ _ ⟨(blk_cell (Aside0.mk HI0.out.1).out 0).trans rfl, (blk_cell (Aside0.mk HI0.out.1).out 1).trans rfl, (blk_cell (Aside0.mk HI0.out.1).out 2).trans rfl⟩ (fun hHeld => ?_)
   clear hK K
   refine norm_ (a' := ?_) ?_ ?_
   rotate_left
   ·show Act.put _ (some 25) _ = _
    simp only [Act.put, Z1, Z2, Z3, i64_w, i32_w]
    rfl
   refine pure_ (i := 10) (N := some 15) (v := ?_) (a' := ?_) (Bz 17 0x7ff) rfl rfl (any_of HT_.out (by kernel_rfl)) (fun _ _ _ h => h) (Or.inl ⟨by rfl, ?_⟩) ?_ ?_
   rotate_left
   ·intro w'; go_simp; with_reducible rfl
   rotate_left; ·simp only [Act.put, Z1, Z2, Z3, i64_w, i32_w]; rfl
   refine pure_ (i := 11) (N := some 26) (v := ?_) (a' := ?_) (Bz 17 0xfff) rfl rfl (any_of HT_.out (by kernel_rfl)) (fun _ _ _ h => h) (Or.inl ⟨by rfl, ?_⟩) ?_ ?_
   rotate_left
   ·intro w'; go_simp; with_reducible rfl
   rotate_left; ·simp only [Act.put, Z1, Z2, Z3, i64_w, i32_w]; rfl
   refine pure_ (i := 12) (N := some 27) (v := ?_) (a' := ?_) (Bz 17 0x1fff) rfl rfl (any_of HT_.out (by kernel_rfl)) (fun _ _ _ h => h) (Or.inl ⟨by rfl, ?_⟩) ?_ ?_
   rotate_left
   ·intro w'; go_simp; with_reducible rfl
   rotate_left; ·simp only [Act.put, Z1, Z2, Z3, i64_w, i32_w]; rfl
   refine pure_ (i := 13) (N := some 28) (v := ?_) (a' := ?_) (Bz 17 0x3fff) rfl rfl (any_of HT_.out (by kernel_rfl)) (fun _ _ _ h => h) (Or.inl ⟨by rfl, ?_⟩) ?_ ?_
   rotate_left
   ·intro w'; go_simp; with_reducible rfl
   rotate_left; ·simp only [Act.put, Z1, Z2, Z3, i64_w, i32_w]; rfl
   refine pure_ (i := 14) (N := some 6) (v := ?_) (a' := ?_) (Bz 17 0x7fff) rfl rfl (any_of HT_.out (by kernel_rfl)) (fun _ _ _ h => h) (Or.inl ⟨by rfl, ?_⟩) ?_ ?_
   rotate_left
   ·intro w'; go_simp; with_reducible rfl
   rotate_left; ·simp only [Act.put, Z1, Z2, Z3, i64_w, i32_w]; rfl
   refine pure_ (i := 15) (N := some 7) (v := ?_) (a' := ?_) (Bz 17 0xffff) rfl rfl (any_of HT_.out (by kernel_rfl)) (fun _ _ _ h => h) (Or.inl ⟨by rfl, ?_⟩) ?_ ?_
   rotate_left
   ·intro w'; go_simp; with_reducible rfl
   rotate_left; ·simp only [Act.put, Z1, Z2, Z3, i64_w, i32_w]; rfl
   refine pure_ (i := 16) (N := some 8) (v := ?_) (a' := ?_) (Bz 17 0x1ffff) rfl rfl (any_of HT_.out (by kernel_rfl)) (fun _ _ _ h => h) (Or.inl ⟨by rfl, ?_⟩) ?_ ?_
   rotate_left
   ·intro w'; go_simp; with_reducible rfl
   rotate_left; ·simp only [Act.put, Z1, Z2, Z3, i64_w, i32_w]; rfl
   refine done_ (done_of HT_.out (by kernel_rfl)) ?_
   obtain ⟨HGz12, hgz12⟩ := HI0.out
   have hcz12_0 := cellS102_0 HGz12
   have hcz12_1 := cellS102_1 HGz12
   have hcz12_2 := cellS102_2 HGz12
   have hfz12_0 := blk_frozen HGz12 0
   have hfz12_1 := blk_frozen HGz12 1
   have hfz12_2 := blk_frozen HGz12 2
   clear HGz12 hgz12
   try go_wp2_with (first | (go_at_call 62; go_in) | ((try simp only [Exit.inBlock, Exit.then]); refine bodyPost_end (results_none rfl _ _ _) rfl ?_; simp only []; go_at_K))
   go_ret
   exact ⟨by first | rfl | (simp [errW_none, errW_some] <;> rfl) | (simp [*, errW_none, errW_some] <;> rfl), by repeat (first | (with_reducible first | exact HI0.out | apply IsS102.alloc | apply IsS102.drewN | apply IsS102.drew | apply IsS102.set_0 | apply IsS102.set_1 | apply IsS102.set_2) | exact HI0.out), by repeat (first | (with_reducible first | exact HB.out | apply below_alloc | apply pw_below_drewN | apply below_drew1 | refine below_set ?_ (IsS102.ge HI0.out)) | exact HB.out), by repeat (first | (with_reducible first | exact HK.out | apply KeepBut.set_ | apply keep_drewN | apply keep_drew | apply keep_alloc) | exact HK.out)⟩
 ·rw [if_neg c2] at H
  have c2b0 : (s0_2 == 0) = false := beq_eq_false_iff_ne.mpr c2
  have c2b1 : (s0_2 != 0) = true := bne_iff_ne.mpr c2
  simp only [Option.some.injEq, Prod.mk.injEq] at H
  obtain ⟨rfl, rfl, rfl, rfl⟩ := H
  obtain ⟨HGz13, hgz13⟩ := HI0.out
  have hcz13_0 := cellS102_0 HGz13
  have hcz13_1 := cellS102_1 HGz13
  have hcz13_2 := cellS102_2 HGz13
  have hfz13_0 := blk_frozen HGz13 0
  have hfz13_1 := blk_frozen HGz13 1
  have hfz13_2 := blk_frozen HGz13 2
  clear HGz13 hgz13
  go_enter Tryd.func39, Tryd.ntmps39
  go_wp2_with (first | (go_at_call 62; go_in) | ((try simp only [Exit.inBlock, Exit.then]); refine bodyPost_end (results_none rfl _ _ _) rfl ?_; simp only []; go_at_K))
  go_ret
  exact ⟨by first | rfl | (simp [errW_none, errW_some] <;> rfl) | (simp [*, errW_none, errW_some] <;> rfl), by repeat (first | (with_reducible first | exact HI0.out | apply IsS102.alloc | apply IsS102.drewN | apply IsS102.drew | apply IsS102.set_0 | apply IsS102.set_1 | apply IsS102.set_2) | exact HI0.out), by repeat (first | (with_reducible first | exact HB.out | apply below_alloc | apply pw_below_drewN | apply below_drew1 | refine below_set ?_ (IsS102.ge HI0.out)) | exact HB.out), by repeat (first | (with_reducible first | exact HK.out | apply KeepBut.set_ | apply keep_drewN | apply keep_drew | apply keep_alloc) | exact HK.out)⟩
end Go.Proofs.YtbccjcdmpiolpaaDoor.T
end
section
namespace Go.Proofs.YtbccjcdmpiolpaaDoor.Pure
open Go.RowKit Go.Proofs.YtbccjcdmpiolpaaDoor.T Go.Proofs.YtbccjcdmpiolpaaDoorW.PrintWords Go.Proofs.YtbccjcdmpiolpaaDoorW.PrintLast Go.Proofs.YtbccjcdmpiolpaaDoorW.PrintMore
set_option linter.unusedVariables false
theorem rd_err (k : Nat) (s : ByteArray) (p : Int) : codec_Reader_Unsigned.f k s p 2 = some (0, s, p, 2) ∧ codec_Reader_Signed.f k s p 2 = some (0, s, p, 2) ∧ codec_Reader_Text.f k s p 2 = some ((⟨#[]⟩ : ByteArray), s, p, 2) ∧ codec_Reader_List.f k s p 2 = some (0, s, p, 2) :=
 ⟨rfl, rfl, rfl, rfl⟩
def rdU (s : ByteArray) (p : Int) : Int × ByteArray × Int × Int := match uS s p with | some (v, e) => (v, s, e, 0) | none => (0, s, p, 2)
def rdS (s : ByteArray) (p : Int) : Int × ByteArray × Int × Int := match sS s p with | some (v, e) => (v, s, e, 0) | none => (0, s, p, 2)
def rdT (s : ByteArray) (p : Int) : ByteArray × ByteArray × Int × Int := match tS s p with | some (v, e) => (v, s, e, 0) | none => ((⟨#[]⟩ : ByteArray), s, p, 2)
def rdL (s : ByteArray) (p : Int) : Int × ByteArray × Int × Int := match lS s p with | some (v, e) => (v, s, e, 0) | none => (0, s, p, 2)
theorem rd_unsigned (k : Nat) (s : ByteArray) (p : Int) (hz : s.size ≤ 140737488355327) : codec_Reader_Unsigned.f (k + 12) s p 0 = some (rdU s p) := by
 unfold codec_Reader_Unsigned.f codec_Reader_Unsigned_1.f rdU
 rw [if_pos rfl, raw_eq k s p 3 (Or.inl rfl) hz, Option.bind_some, Option.bind_some]
 cases e : uS s p with
 | some x =>
  obtain ⟨v, q⟩ := x
  rw [(rawS3 s p).1 v q e, if_pos rfl]
 | none => rw [if_neg (by rw [(rawS3 s p).2 e]; exact Bool.false_ne_true)]
theorem rd_signed (k : Nat) (s : ByteArray) (p : Int) (hz : s.size ≤ 140737488355327) : codec_Reader_Signed.f (k + 12) s p 0 = some (rdS s p) := by
 unfold codec_Reader_Signed.f codec_Reader_Signed_1.f rdS
 rw [if_pos rfl, raw_eq k s p 4 (Or.inr rfl) hz, Option.bind_some, Option.bind_some]
 cases e : sS s p with
 | some x =>
  obtain ⟨v, q⟩ := x
  have hr := sS_some e
  rw [(rawS4 s p).1 v q e, if_pos rfl]
  have : wrap64 (IntKind.u64.wrap v) = v := by rw [u64w]; unfold wrap64; omega
  rw [this]
 | none => rw [if_neg (by rw [(rawS4 s p).2 e]; exact Bool.false_ne_true)]
theorem rd_text (k : Nat) (s : ByteArray) (p : Int) (hz : s.size ≤ 140737488355327) : codec_Reader_Text.f (k + 12) s p 0 = some (rdT s p) := by
 unfold codec_Reader_Text.f rdT
 rw [if_pos rfl, text_eq k s p hz, Option.bind_some]
 cases e : tS s p with
 | some x => obtain ⟨v, q⟩ := x; rw [optT_some, if_pos rfl]
 | none => rw [optT_none, if_neg Bool.false_ne_true]
theorem rd_list (k : Nat) (s : ByteArray) (p : Int) (hz : s.size ≤ 140737488355327) : codec_Reader_List.f (k + 12) s p 0 = some (rdL s p) := by
 unfold codec_Reader_List.f rdL
 rw [if_pos rfl, list_eq k s p hz, Option.bind_some]
 cases e : lS s p with
 | some x => obtain ⟨v, q⟩ := x; rw [opt3_some, if_pos rfl]
 | none => rw [opt3_none, if_neg Bool.false_ne_true]
end Go.Proofs.YtbccjcdmpiolpaaDoor.Pure
end
section
namespace Go.Proofs.YtbccjcdmpiolpaaDoor.T
open Go.RowKit Go.Proofs.YtbccjcdmpiolpaaDoorW.PrintWords Go.Proofs.YtbccjcdmpiolpaaDoorW.PrintLast Go.Proofs.YtbccjcdmpiolpaaDoorW.PrintMore
attribute [local go_sem] max2_int min2_int max_two min_two max_three min_three max_four min_four
set_option linter.unusedVariables false
set_option linter.unusedSimpArgs false
def codec_Reader_Err.f (s0_0 : ByteArray) (s0_1 : Int) (s0_2 : Int) : Option (Int × ByteArray × Int × Int) := some (s0_2, s0_0, s0_1, s0_2)
set_option maxHeartbeats 8000000 in
set_option maxRecDepth 100000 in
theorem codec_Reader_Err.calls (g : Nat) (s0_0 : ByteArray) (s0_1 : Int) (s0_2 : Int) (r1 : Int) (r2 : ByteArray) (r3 : Int) (r4 : Int) (w0 w : World) (hG : Glob w0) (hI : IsS102 w0 w g s0_0 s0_1 s0_2) (hB : Below w0.heap.size w0 w) (h : codec_Reader_Err.f s0_0 s0_1 s0_2 = some (r1, r2, r3, r4)) :
  Calls Tryd.prog 38 #[.pointer (some ⟨g, 0, none⟩)] w fun e w' => e = .returned (.int .i64 r1) ∧ IsS102 w0 w' g r2 r3 r4 ∧ Below w0.heap.size w0 w' ∧ KeepBut w w' g none := by
 have HG := Aside0.mk hG
 clear hG
 have HI0 := Aside0.mk hI
 have HK := Aside0.mk (KeepBut.refl w g none)
 have HL := Aside0.mk hB.size
 clear hI
 have HW0 := Aside0.mk hB.size
 have HB := Aside0.mk hB
 clear hB
 have H : (some (s0_2, s0_0, s0_1, s0_2)) = some (r1, r2, r3, r4) := h
 clear h
 simp only [Option.some.injEq, Prod.mk.injEq] at H
 obtain ⟨rfl, rfl, rfl, rfl⟩ := H
 obtain ⟨HGz2, hgz2⟩ := HI0.out
 have hcz2_0 := cellS102_0 HGz2
 have hcz2_1 := cellS102_1 HGz2
 have hcz2_2 := cellS102_2 HGz2
 have hfz2_0 := blk_frozen HGz2 0
 have hfz2_1 := blk_frozen HGz2 1
 have hfz2_2 := blk_frozen HGz2 2
 clear HGz2 hgz2
 go_enter Tryd.func38, Tryd.ntmps38
 go_wp2
 go_ret
 exact ⟨by first | rfl | (simp [errW_none, errW_some] <;> rfl) | (simp [*, errW_none, errW_some] <;> rfl), by repeat (first | (with_reducible first | exact HI0.out | apply IsS102.alloc | apply IsS102.drewN | apply IsS102.drew | apply IsS102.set_0 | apply IsS102.set_1 | apply IsS102.set_2) | exact HI0.out), by repeat (first | (with_reducible first | exact HB.out | apply below_alloc | apply pw_below_drewN | apply below_drew1 | refine below_set ?_ (IsS102.ge HI0.out)) | exact HB.out), by repeat (first | (with_reducible first | exact HK.out | apply KeepBut.set_ | apply keep_drewN | apply keep_drew | apply keep_alloc) | exact HK.out)⟩
end Go.Proofs.YtbccjcdmpiolpaaDoor.T
end
section
namespace Go.Proofs.YtbccjcdmpiolpaaDoor.T
open Go.RowKit Go.Proofs.YtbccjcdmpiolpaaDoor.Pure Go.Proofs.YtbccjcdmpiolpaaDoorW.PrintWords Go.Proofs.YtbccjcdmpiolpaaDoorW.PrintLast Go.Proofs.YtbccjcdmpiolpaaDoorW.PrintMore
set_option linter.unusedVariables false
set_option linter.unusedSimpArgs false
attribute [local go_sem] max2_int min2_int max_two min_two
structure TRX (w0 w : World) (gR gr : Nat) (s : ByteArray) (ok : Bool) (p e : Int) : Prop where
 box : w.heap[gR]? = some (.cells #[.pointer (some ⟨gr, 0, none⟩), .bool ok] 78 (0, 0))
 rd : IsS102 w0 w gr s p e
 err : e = 0 ∨ e = 2
 low : w0.heap.size ≤ gR
structure St (o : Option Int) (ok : Bool) (p e : Int) : Prop where
 good : ∀ q, o = some q → ok = true ∧ p = q ∧ e = 0
 bad : o = none → ¬ (ok = true ∧ e = 0)
def TRS (w0 w : World) (gR gr : Nat) (s : ByteArray) (o : Option Int) : Prop := ∃ ok p e, TRX w0 w gR gr s ok p e ∧ St o ok p e
structure KeepQ (w w' : World) : Prop where
 size : w.heap.size ≤ w'.heap.size
 keep : ∀ (k : Nat) cs t, w.heap[k]? = some (.cells cs t (0, 0)) → t ≠ 78 → t ≠ 102 → w'.heap[k]? = some (.cells cs t (0, 0))
theorem KeepQ.trans {w w1 w2 : World} (h : KeepQ w w1) (k : KeepQ w1 w2) : KeepQ w w2 := ⟨Nat.le_trans h.size k.size, fun j cs t hj h1 h2 => k.keep j cs t (h.keep j cs t hj h1 h2) h1 h2⟩
theorem KeepQ.of_below {w w1 : World} (h : Below w.heap.size w w1) : KeepQ w w1 := ⟨h.size, fun j cs t hj _ _ => blk_below hj h⟩
theorem KeepQ.of_but {w w1 : World} {g : Nat} {cs0 : Array Value} (h : KeepBut w w1 g none) (hg : w.heap[g]? = some (.cells cs0 102 (0, 0))) : KeepQ w w1 := ⟨h.1, fun k cs t hk h1 h2 => (h.2 k (blk_lt hk) (fun e => by subst e; rw [hg] at hk; injection hk with hk; injection hk with _ hk _; exact h2 hk.symm) (by simp)).trans hk⟩
theorem KeepQ.set {w w1 : World} (h : KeepQ w w1) {g : Nat} {cs0 : Array Value} (hg : w1.heap[g]? = some (.cells cs0 78 (0, 0))) (j : Nat) (u : Value) : KeepQ w (w1.setCell ⟨g, j, none⟩ u) := ⟨by simpa [World.setCell] using h.size, fun k cs t hk h1 h2 => blk_far (h.keep k cs t hk h1 h2) (p := ⟨g, j, none⟩) (fun e => by
 have h3 := h.keep k cs t hk h1 h2
 rw [e] at h3
 rw [h3] at hg
 injection hg with hg
 injection hg with _ hg _
 exact h1 hg) u⟩
theorem TRX.below {w0 w w1 : World} {gR gr : Nat} {s : ByteArray} {ok : Bool} {p e : Int} (h : TRX w0 w gR gr s ok p e) (hb : Below w.heap.size w w1) : TRX w0 w1 gR gr s ok p e := ⟨blk_below h.box hb, ⟨blk_below h.rd.1 hb, h.rd.2⟩, h.err, h.low⟩
theorem TRS.below {w0 w w1 : World} {gR gr : Nat} {s : ByteArray} {o : Option Int} (h : TRS w0 w gR gr s o) (hb : Below w.heap.size w w1) : TRS w0 w1 gR gr s o := by
 obtain ⟨ok, p, e, h1, h2⟩ := h
 exact ⟨ok, p, e, h1.below hb, h2⟩
theorem TRX.ne {w0 w : World} {gR gr : Nat} {s : ByteArray} {ok : Bool} {p e : Int} (h : TRX w0 w gR gr s ok p e) : gR ≠ gr := blk_ne h.box h.rd.1 (by decide)
theorem TRX.but {w0 w w1 : World} {gR gr : Nat} {s : ByteArray} {ok : Bool} {p e p' e' : Int} (h : TRX w0 w gR gr s ok p e) (hk : KeepBut w w1 gr none) (hi : IsS102 w0 w1 gr s p' e') (he : e' = 0 ∨ e' = 2) : TRX w0 w1 gR gr s ok p' e' := ⟨(hk.2 gR (blk_lt h.box) h.ne (by simp)).trans h.box, hi, he, h.low⟩
theorem TRX.flag {w0 w : World} {gR gr : Nat} {s : ByteArray} {ok : Bool} {p e : Int} (h : TRX w0 w gR gr s ok p e) (b : Bool) : TRX w0 (w.setCell ⟨gR, 1, none⟩ (.bool b)) gR gr s b p e := ⟨blk_put h.box 1 (.bool b) rfl, ⟨blk_far h.rd.1 (p := ⟨gR, 1, none⟩) (Ne.symm h.ne) (.bool b), h.rd.2⟩, h.err, h.low⟩
def uR (s : ByteArray) (p e : Int) : Int × ByteArray × Int × Int := if e = 0 then rdU s p else (0, s, p, e)
def sR (s : ByteArray) (p e : Int) : Int × ByteArray × Int × Int := if e = 0 then rdS s p else (0, s, p, e)
def tR (s : ByteArray) (p e : Int) : ByteArray × ByteArray × Int × Int := if e = 0 then rdT s p else ((⟨#[]⟩ : ByteArray), s, p, e)
def lR (s : ByteArray) (p e : Int) : Int × ByteArray × Int × Int := if e = 0 then rdL s p else (0, s, p, e)
theorem uR_eq (s : ByteArray) (p e : Int) (he : e = 0 ∨ e = 2) (hz : s.size ≤ 140737488355327) : codec_Reader_Unsigned.f 40 s p e = some (uR s p e) := by
 rcases he with rfl | rfl
 ·exact rd_unsigned 28 s p hz
 ·exact (rd_err 40 s p).1
theorem sR_eq (s : ByteArray) (p e : Int) (he : e = 0 ∨ e = 2) (hz : s.size ≤ 140737488355327) : codec_Reader_Signed.f 40 s p e = some (sR s p e) := by
 rcases he with rfl | rfl
 ·exact rd_signed 28 s p hz
 ·exact (rd_err 40 s p).2.1
theorem tR_eq (s : ByteArray) (p e : Int) (he : e = 0 ∨ e = 2) (hz : s.size ≤ 140737488355327) : codec_Reader_Text.f 40 s p e = some (tR s p e) := by
 rcases he with rfl | rfl
 ·exact rd_text 28 s p hz
 ·exact (rd_err 40 s p).2.2.1
theorem lR_eq (s : ByteArray) (p e : Int) (he : e = 0 ∨ e = 2) (hz : s.size ≤ 140737488355327) : codec_Reader_List.f 40 s p e = some (lR s p e) := by
 rcases he with rfl | rfl
 ·exact rd_list 28 s p hz
 ·exact (rd_err 40 s p).2.2.2
theorem uR_st (s : ByteArray) (p e : Int) (he : e = 0 ∨ e = 2) : (uR s p e).2.1 = s ∧ ((uR s p e).2.2.2 = 0 ∨ (uR s p e).2.2.2 = 2) := by
 unfold uR
 rcases he with rfl | rfl
 ·rw [if_pos rfl]
  unfold rdU
  split
  ·exact ⟨rfl, Or.inl rfl⟩
  ·exact ⟨rfl, Or.inr rfl⟩
 ·rw [if_neg (by decide)]
  exact ⟨rfl, Or.inr rfl⟩
theorem uR_good {s : ByteArray} {p : Int} {v : Int} {q : Int} (h : uS s p = some (v, q)) : uR s p 0 = (v, s, q, 0) := by
 unfold uR rdU
 rw [if_pos rfl, h]
theorem uR_bad {s : ByteArray} {p e : Int} (he : e = 0 ∨ e = 2) (h : e = 0 → uS s p = none) : (uR s p e).2.2.2 = 2 := by
 unfold uR
 rcases he with rfl | rfl
 ·rw [if_pos rfl]
  unfold rdU
  rw [h rfl]
 ·rw [if_neg (by decide)]
theorem St.u {s : ByteArray} {o : Option Int} {ok : Bool} {p e : Int} (h : St o ok p e) (he : e = 0 ∨ e = 2) : St ((o.bind fun p => uS s p).map Prod.snd) ok (uR s p e).2.2.1 (uR s p e).2.2.2 ∧ ∀ v q, (o.bind fun p => uS s p) = some (v, q) → (uR s p e).1 = v := by
 cases o with
 | none =>
  refine ⟨⟨fun q hq => (by cases hq), fun _ hh => ?_⟩, fun v q hq => by cases hq⟩
  have h2 := h.2 rfl
  rcases he with rfl | rfl
  ·exact h2 ⟨hh.1, rfl⟩
  ·have h3 := uR_bad (s := s) (p := p) (Or.inr rfl : (2 : Int) = 0 ∨ (2 : Int) = 2) (fun h => by cases h)
   have h4 := hh.2
   rw [h3] at h4
   cases h4
 | some q0 =>
  obtain ⟨rfl, rfl, rfl⟩ := h.1 q0 rfl
  rw [Option.bind_some]
  cases hs : uS s p with
  | none =>
   refine ⟨⟨fun q hq => (by cases hq), fun _ hh => ?_⟩, fun v q hq => by cases hq⟩
   have h3 := uR_bad (s := s) (p := p) (Or.inl rfl : (0 : Int) = 0 ∨ (0 : Int) = 2) (fun _ => hs)
   have h4 := hh.2
   rw [h3] at h4
   cases h4
  | some a =>
   obtain ⟨v, q⟩ := a
   rw [uR_good hs]
   refine ⟨⟨fun q' hq => ?_, fun hn => by cases hn⟩, fun v' q' hq => ?_⟩
   ·injection hq with hq
    exact ⟨rfl, hq, rfl⟩
   ·injection hq with hq
    injection hq
theorem sR_st (s : ByteArray) (p e : Int) (he : e = 0 ∨ e = 2) : (sR s p e).2.1 = s ∧ ((sR s p e).2.2.2 = 0 ∨ (sR s p e).2.2.2 = 2) := by
 unfold sR
 rcases he with rfl | rfl
 ·rw [if_pos rfl]
  unfold rdS
  split
  ·exact ⟨rfl, Or.inl rfl⟩
  ·exact ⟨rfl, Or.inr rfl⟩
 ·rw [if_neg (by decide)]
  exact ⟨rfl, Or.inr rfl⟩
theorem sR_good {s : ByteArray} {p : Int} {v : Int} {q : Int} (h : sS s p = some (v, q)) : sR s p 0 = (v, s, q, 0) := by
 unfold sR rdS
 rw [if_pos rfl, h]
theorem sR_bad {s : ByteArray} {p e : Int} (he : e = 0 ∨ e = 2) (h : e = 0 → sS s p = none) : (sR s p e).2.2.2 = 2 := by
 unfold sR
 rcases he with rfl | rfl
 ·rw [if_pos rfl]
  unfold rdS
  rw [h rfl]
 ·rw [if_neg (by decide)]
theorem St.s {s : ByteArray} {o : Option Int} {ok : Bool} {p e : Int} (h : St o ok p e) (he : e = 0 ∨ e = 2) : St ((o.bind fun p => sS s p).map Prod.snd) ok (sR s p e).2.2.1 (sR s p e).2.2.2 ∧ ∀ v q, (o.bind fun p => sS s p) = some (v, q) → (sR s p e).1 = v := by
 cases o with
 | none =>
  refine ⟨⟨fun q hq => (by cases hq), fun _ hh => ?_⟩, fun v q hq => by cases hq⟩
  have h2 := h.2 rfl
  rcases he with rfl | rfl
  ·exact h2 ⟨hh.1, rfl⟩
  ·have h3 := sR_bad (s := s) (p := p) (Or.inr rfl : (2 : Int) = 0 ∨ (2 : Int) = 2) (fun h => by cases h)
   have h4 := hh.2
   rw [h3] at h4
   cases h4
 | some q0 =>
  obtain ⟨rfl, rfl, rfl⟩ := h.1 q0 rfl
  rw [Option.bind_some]
  cases hs : sS s p with
  | none =>
   refine ⟨⟨fun q hq => (by cases hq), fun _ hh => ?_⟩, fun v q hq => by cases hq⟩
   have h3 := sR_bad (s := s) (p := p) (Or.inl rfl : (0 : Int) = 0 ∨ (0 : Int) = 2) (fun _ => hs)
   have h4 := hh.2
   rw [h3] at h4
   cases h4
  | some a =>
   obtain ⟨v, q⟩ := a
   rw [sR_good hs]
   refine ⟨⟨fun q' hq => ?_, fun hn => by cases hn⟩, fun v' q' hq => ?_⟩
   ·injection hq with hq
    exact ⟨rfl, hq, rfl⟩
   ·injection hq with hq
    injection hq
theorem tR_st (s : ByteArray) (p e : Int) (he : e = 0 ∨ e = 2) : (tR s p e).2.1 = s ∧ ((tR s p e).2.2.2 = 0 ∨ (tR s p e).2.2.2 = 2) := by
 unfold tR
 rcases he with rfl | rfl
 ·rw [if_pos rfl]
  unfold rdT
  split
  ·exact ⟨rfl, Or.inl rfl⟩
  ·exact ⟨rfl, Or.inr rfl⟩
 ·rw [if_neg (by decide)]
  exact ⟨rfl, Or.inr rfl⟩
theorem tR_good {s : ByteArray} {p : Int} {v : ByteArray} {q : Int} (h : tS s p = some (v, q)) : tR s p 0 = (v, s, q, 0) := by
 unfold tR rdT
 rw [if_pos rfl, h]
theorem tR_bad {s : ByteArray} {p e : Int} (he : e = 0 ∨ e = 2) (h : e = 0 → tS s p = none) : (tR s p e).2.2.2 = 2 := by
 unfold tR
 rcases he with rfl | rfl
 ·rw [if_pos rfl]
  unfold rdT
  rw [h rfl]
 ·rw [if_neg (by decide)]
theorem St.t {s : ByteArray} {o : Option Int} {ok : Bool} {p e : Int} (h : St o ok p e) (he : e = 0 ∨ e = 2) : St ((o.bind fun p => tS s p).map Prod.snd) ok (tR s p e).2.2.1 (tR s p e).2.2.2 ∧ ∀ v q, (o.bind fun p => tS s p) = some (v, q) → (tR s p e).1 = v := by
 cases o with
 | none =>
  refine ⟨⟨fun q hq => (by cases hq), fun _ hh => ?_⟩, fun v q hq => by cases hq⟩
  have h2 := h.2 rfl
  rcases he with rfl | rfl
  ·exact h2 ⟨hh.1, rfl⟩
  ·have h3 := tR_bad (s := s) (p := p) (Or.inr rfl : (2 : Int) = 0 ∨ (2 : Int) = 2) (fun h => by cases h)
   have h4 := hh.2
   rw [h3] at h4
   cases h4
 | some q0 =>
  obtain ⟨rfl, rfl, rfl⟩ := h.1 q0 rfl
  rw [Option.bind_some]
  cases hs : tS s p with
  | none =>
   refine ⟨⟨fun q hq => (by cases hq), fun _ hh => ?_⟩, fun v q hq => by cases hq⟩
   have h3 := tR_bad (s := s) (p := p) (Or.inl rfl : (0 : Int) = 0 ∨ (0 : Int) = 2) (fun _ => hs)
   have h4 := hh.2
   rw [h3] at h4
   cases h4
  | some a =>
   obtain ⟨v, q⟩ := a
   rw [tR_good hs]
   refine ⟨⟨fun q' hq => ?_, fun hn => by cases hn⟩, fun v' q' hq => ?_⟩
   ·injection hq with hq
    exact ⟨rfl, hq, rfl⟩
   ·injection hq with hq
    injection hq
theorem lR_st (s : ByteArray) (p e : Int) (he : e = 0 ∨ e = 2) : (lR s p e).2.1 = s ∧ ((lR s p e).2.2.2 = 0 ∨ (lR s p e).2.2.2 = 2) := by
 unfold lR
 rcases he with rfl | rfl
 ·rw [if_pos rfl]
  unfold rdL
  split
  ·exact ⟨rfl, Or.inl rfl⟩
  ·exact ⟨rfl, Or.inr rfl⟩
 ·rw [if_neg (by decide)]
  exact ⟨rfl, Or.inr rfl⟩
theorem lR_good {s : ByteArray} {p : Int} {v : Int} {q : Int} (h : lS s p = some (v, q)) : lR s p 0 = (v, s, q, 0) := by
 unfold lR rdL
 rw [if_pos rfl, h]
theorem lR_bad {s : ByteArray} {p e : Int} (he : e = 0 ∨ e = 2) (h : e = 0 → lS s p = none) : (lR s p e).2.2.2 = 2 := by
 unfold lR
 rcases he with rfl | rfl
 ·rw [if_pos rfl]
  unfold rdL
  rw [h rfl]
 ·rw [if_neg (by decide)]
theorem St.l {s : ByteArray} {o : Option Int} {ok : Bool} {p e : Int} (h : St o ok p e) (he : e = 0 ∨ e = 2) : St ((o.bind fun p => lS s p).map Prod.snd) ok (lR s p e).2.2.1 (lR s p e).2.2.2 ∧ ∀ v q, (o.bind fun p => lS s p) = some (v, q) → (lR s p e).1 = v := by
 cases o with
 | none =>
  refine ⟨⟨fun q hq => (by cases hq), fun _ hh => ?_⟩, fun v q hq => by cases hq⟩
  have h2 := h.2 rfl
  rcases he with rfl | rfl
  ·exact h2 ⟨hh.1, rfl⟩
  ·have h3 := lR_bad (s := s) (p := p) (Or.inr rfl : (2 : Int) = 0 ∨ (2 : Int) = 2) (fun h => by cases h)
   have h4 := hh.2
   rw [h3] at h4
   cases h4
 | some q0 =>
  obtain ⟨rfl, rfl, rfl⟩ := h.1 q0 rfl
  rw [Option.bind_some]
  cases hs : lS s p with
  | none =>
   refine ⟨⟨fun q hq => (by cases hq), fun _ hh => ?_⟩, fun v q hq => by cases hq⟩
   have h3 := lR_bad (s := s) (p := p) (Or.inl rfl : (0 : Int) = 0 ∨ (0 : Int) = 2) (fun _ => hs)
   have h4 := hh.2
   rw [h3] at h4
   cases h4
  | some a =>
   obtain ⟨v, q⟩ := a
   rw [lR_good hs]
   refine ⟨⟨fun q' hq => ?_, fun hn => by cases hn⟩, fun v' q' hq => ?_⟩
   ·injection hq with hq
    exact ⟨rfl, hq, rfl⟩
   ·injection hq with hq
    injection hq
theorem rs_calls (w0 : World) (gR gr : Nat) (s : ByteArray) (o : Option Int) (w : World) (hG : Glob w0) (hz : s.size ≤ 140737488355327) (h : TRS w0 w gR gr s o) (hB : Below w0.heap.size w0 w) :
  Calls Tryd.prog 39 #[.pointer (some ⟨gr, 0, none⟩)] w fun e w' => ∃ x : Int, e = .returned (.int .i64 x) ∧ TRS w0 w' gR gr s ((o.bind fun p => sS s p).map Prod.snd) ∧ (∀ v q, (o.bind fun p => sS s p) = some (v, q) → x = v) ∧ Below w0.heap.size w0 w' ∧ KeepQ w w' := by
 obtain ⟨ok, p, er, hx, hs⟩ := h
 have h1 := sR_st s p er hx.err
 have h2 := hs.s (s := s) hx.err
 have hf := sR_eq s p er hx.err hz
 obtain ⟨⟨x, s', p', e'⟩, hr⟩ : ∃ r, sR s p er = r := ⟨_, rfl⟩
 rw [hr] at h1 h2 hf
 obtain ⟨h1a, h1b⟩ := h1
 replace h1a : s' = s := h1a
 subst h1a
 refine (codec_Reader_Signed.calls 40 gr s' p er x s' p' e' w0 w hG hx.rd hB hf).mono ?_
 rintro e w' ⟨rfl, hi, hb, hk⟩
 exact ⟨x, rfl, ⟨ok, p', e', hx.but hk hi h1b, h2.1⟩, h2.2, hb, KeepQ.of_but hk hx.rd.1⟩
theorem rt_calls (w0 : World) (gR gr : Nat) (s : ByteArray) (o : Option Int) (w : World) (hG : Glob w0) (hz : s.size ≤ 140737488355327) (h : TRS w0 w gR gr s o) (hB : Below w0.heap.size w0 w) :
  Calls Tryd.prog 33 #[.pointer (some ⟨gr, 0, none⟩)] w fun e w' => ∃ x : ByteArray, e = .returned (.string x) ∧ TRS w0 w' gR gr s ((o.bind fun p => tS s p).map Prod.snd) ∧ (∀ v q, (o.bind fun p => tS s p) = some (v, q) → x = v) ∧ Below w0.heap.size w0 w' ∧ KeepQ w w' := by
 obtain ⟨ok, p, er, hx, hs⟩ := h
 have h1 := tR_st s p er hx.err
 have h2 := hs.t (s := s) hx.err
 have hf := tR_eq s p er hx.err hz
 obtain ⟨⟨x, s', p', e'⟩, hr⟩ : ∃ r, tR s p er = r := ⟨_, rfl⟩
 rw [hr] at h1 h2 hf
 obtain ⟨h1a, h1b⟩ := h1
 replace h1a : s' = s := h1a
 subst h1a
 refine (codec_Reader_Text.calls 40 gr s' p er x s' p' e' w0 w hG hx.rd hB hf).mono ?_
 rintro e w' ⟨rfl, hi, hb, hk⟩
 exact ⟨x, rfl, ⟨ok, p', e', hx.but hk hi h1b, h2.1⟩, h2.2, hb, KeepQ.of_but hk hx.rd.1⟩
theorem rl_calls (w0 : World) (gR gr : Nat) (s : ByteArray) (o : Option Int) (w : World) (hG : Glob w0) (hz : s.size ≤ 140737488355327) (h : TRS w0 w gR gr s o) (hB : Below w0.heap.size w0 w) :
  Calls Tryd.prog 37 #[.pointer (some ⟨gr, 0, none⟩)] w fun e w' => ∃ x : Int, e = .returned (.int .i64 x) ∧ TRS w0 w' gR gr s ((o.bind fun p => lS s p).map Prod.snd) ∧ (∀ v q, (o.bind fun p => lS s p) = some (v, q) → x = v) ∧ Below w0.heap.size w0 w' ∧ KeepQ w w' := by
 obtain ⟨ok, p, er, hx, hs⟩ := h
 have h1 := lR_st s p er hx.err
 have h2 := hs.l (s := s) hx.err
 have hf := lR_eq s p er hx.err hz
 obtain ⟨⟨x, s', p', e'⟩, hr⟩ : ∃ r, lR s p er = r := ⟨_, rfl⟩
 rw [hr] at h1 h2 hf
 obtain ⟨h1a, h1b⟩ := h1
 replace h1a : s' = s := h1a
 subst h1a
 refine (codec_Reader_List.calls 40 gr s' p er x s' p' e' w0 w hG hx.rd hB hf).mono ?_
 rintro e w' ⟨rfl, hi, hb, hk⟩
 exact ⟨x, rfl, ⟨ok, p', e', hx.but hk hi h1b, h2.1⟩, h2.2, hb, KeepQ.of_but hk hx.rd.1⟩
def numO (s : ByteArray) (most : Int) (o : Option Int) : Option (Int × Int) := o.bind fun p => (uS s p).bind fun b => if b.1 ≤ most then some b else none
def lstO (s : ByteArray) (n : Int) (o : Option Int) : Option Int := o.bind fun p => (lS s p).bind fun b => if b.1 = n then some b.2 else none
theorem St.fail {p e : Int} : St none false p e := ⟨fun q hq => (by cases hq), fun _ hh => by cases hh.1⟩
theorem numO_eq (s : ByteArray) (most : Int) (o : Option Int) : numO s most o = (o.bind fun p => uS s p).bind fun b => if b.1 ≤ most then some b else none := by
 unfold numO
 cases o <;> rfl
theorem lstO_eq (s : ByteArray) (n : Int) (o : Option Int) : lstO s n o = (o.bind fun p => lS s p).bind fun b => if b.1 = n then some b.2 else none := by
 unfold lstO
 cases o <;> rfl
theorem uR_range (s : ByteArray) (p e : Int) : 0 ≤ (uR s p e).1 ∧ (uR s p e).1 < 18446744073709551616 := by
 unfold uR
 split
 ·unfold rdU
  split
  ·rename_i v q h
   have := uS_some h
   exact ⟨this.2.2.2.1, this.2.2.2.2⟩
  ·exact ⟨Int.le_refl 0, (by decide : (0 : Int) < 18446744073709551616)⟩
 ·exact ⟨Int.le_refl 0, (by decide : (0 : Int) < 18446744073709551616)⟩
set_option maxHeartbeats 16000000 in
set_option maxRecDepth 100000 in
theorem tlist_calls (w0 : World) (gR gr : Nat) (s : ByteArray) (n : Int) (o : Option Int) (w : World) (hG : Glob w0) (hz : s.size ≤ 140737488355327) (h : TRS w0 w gR gr s o) (hB : Below w0.heap.size w0 w) :
  Calls Tryd.prog 32 #[.pointer (some ⟨gR, 0, none⟩), .int .i64 n] w fun e w' => e = .returned (.tuple #[]) ∧ TRS w0 w' gR gr s (lstO s n o) ∧ Below w0.heap.size w0 w' ∧ KeepQ w w' := by
 have HG := Aside0.mk hG
 have HZ := Aside0.mk hz
 have HT := Aside0.mk h
 have HB := Aside0.mk hB
 obtain ⟨ok0, p0, er0, hx0, _⟩ := h
 have r0 := (blk_cell hx0.box 0).trans rfl
 clear hx0 hB hG hz
 have hend : Aside0 (∀ (x : Int) (w1 : World), TRS w0 w1 gR gr s ((o.bind fun p => lS s p).map Prod.snd) → (∀ v q, (o.bind fun p => lS s p) = some (v, q) → x = v) → x = n → TRS w0 w1 gR gr s (lstO s n o)) := ⟨fun x w1 ht hv he => by
  rw [lstO_eq]
  cases hl : (o.bind fun p => lS s p) with
  | none => rw [hl] at ht; exact ht
  | some b =>
   obtain ⟨v, q⟩ := b
   rw [hl] at ht
   have hvx := hv v q hl
   rw [Option.bind_some, if_pos (by show v = n; rw [← hvx, he])]
   exact ht⟩
 have hbad : Aside0 (∀ (x : Int) (w1 : World), TRS w0 w1 gR gr s ((o.bind fun p => lS s p).map Prod.snd) → (∀ v q, (o.bind fun p => lS s p) = some (v, q) → x = v) → ¬ x = n → TRS w0 (w1.setCell ⟨gR, 1, none⟩ (.bool false)) gR gr s (lstO s n o)) := ⟨fun x w1 ht hv he => by
  obtain ⟨ok, p, er, h1, _⟩ := ht
  have : lstO s n o = none := by
   rw [lstO_eq]
   cases hl : (o.bind fun p => lS s p) with
   | none => rfl
   | some b =>
    obtain ⟨v, q⟩ := b
    have hvx := hv v q hl
    rw [Option.bind_some, if_neg (by show ¬ v = n; rw [← hvx]; exact he)]
  rw [this]
  exact ⟨false, p, er, h1.flag false, St.fail⟩⟩
 go_enter Tryd.func32, Tryd.ntmps32
 go_wp2_with (go_at_call 37; (with_reducible refine (rl_calls w0 gR gr s o _ HG.out HZ.out HT.out HB.out).mono ?_); rintro e w1 ⟨x, rfl, ht, hv, hb, hk⟩; have HT1 := Aside0.mk ht; have HV1 := Aside0.mk hv; have HB1 := Aside0.mk hb; have HK1 := Aside0.mk hk; obtain ⟨ok1, p1, er1, hx1, _⟩ := ht; have HX1 := Aside0.mk hx1; have r1 := (blk_cell hx1.box 1).trans rfl; have f1 := blk_frozen hx1.box 1; clear hx1 hv hb hk r0)
 ·rename_i hne
  have hne' : ¬ x = n := bne_iff_ne.mp hne
  refine bodyPost_end (results_none rfl _ _ _) rfl ?_
  exact ⟨rfl, hbad.out x w1 HT1.out HV1.out hne', HB1.out.setCell (p := ⟨gR, 1, none⟩) HX1.out.low (.bool false), HK1.out.set HX1.out.box 1 (.bool false)⟩
 ·rename_i hne
  have hne' : x = n := by
   by_cases hq : x = n
   ·exact hq
   ·rw [bne_iff_ne.mpr hq] at hne
    cases hne
  refine bodyPost_end (results_none rfl _ _ _) rfl ?_
  exact ⟨rfl, hend.out x w1 HT1.out HV1.out hne', HB1.out, HK1.out⟩
set_option maxHeartbeats 16000000 in
set_option maxRecDepth 100000 in
theorem tnum_calls (w0 : World) (gR gr : Nat) (s : ByteArray) (most : Int) (o : Option Int) (w : World) (hG : Glob w0) (hz : s.size ≤ 140737488355327) (hm : 0 ≤ most ∧ most ≤ 1000000000000) (h : TRS w0 w gR gr s o) (hB : Below w0.heap.size w0 w) :
  Calls Tryd.prog 36 #[.pointer (some ⟨gR, 0, none⟩), .int .u64 most] w fun e w' => ∃ x : Int, e = .returned (.int .i64 x) ∧ TRS w0 w' gR gr s ((numO s most o).map Prod.snd) ∧ (∀ v q, numO s most o = some (v, q) → x = v) ∧ (0 ≤ x ∧ x ≤ most) ∧ Below w0.heap.size w0 w' ∧ KeepQ w w' := by
 have HG := Aside0.mk hG
 have HM := Aside0.mk hm
 have HT := Aside0.mk h
 have HB := Aside0.mk hB
 obtain ⟨ok0, p0, er0, hx0, hs0⟩ := h
 have HX0 := Aside0.mk hx0
 have hst := uR_st s p0 er0 hx0.err
 have hu := hs0.u (s := s) hx0.err
 have hrg := uR_range s p0 er0
 have hf := uR_eq s p0 er0 hx0.err hz
 obtain ⟨⟨x, s', p', e'⟩, hr⟩ : ∃ r, uR s p0 er0 = r := ⟨_, rfl⟩
 rw [hr] at hst hu hrg hf
 obtain ⟨h1a, h1b⟩ := hst
 replace h1a : s' = s := h1a
 subst h1a
 have HF := Aside0.mk hf
 have HU := Aside0.mk hu
 have HRG := Aside0.mk (show 0 ≤ x ∧ x < 18446744073709551616 from hrg)
 have HE := Aside0.mk h1b
 have r0 := (blk_cell hx0.box 0).trans rfl
 clear hx0 hs0 hB hG hz hm hu hrg hf hr h1b
 by_cases k : x > most
 ·have hk1 : decide (most < x) = true := decide_eq_true k
  have HN := Aside0.mk (show numO s' most o = none by
   rw [numO_eq]
   cases hl : (o.bind fun p => uS s' p) with
   | none => rfl
   | some b =>
    obtain ⟨v, q⟩ := b
    have hvx := HU.out.2 v q hl
    rw [Option.bind_some, if_neg (by show ¬ v ≤ most; have h2 : x = v := hvx; omega)])
  clear k
  go_enter Tryd.func36, Tryd.ntmps36
  go_wp2_with (go_at_call 59; (with_reducible refine (codec_Reader_Unsigned.calls 40 gr s' p0 er0 x s' p' e' w0 _ HG.out HX0.out.rd HB.out HF.out).mono ?_); rintro e w1 ⟨rfl, hi, hb, hk⟩; have HX1 := Aside0.mk (HX0.out.but hk hi HE.out); have HB1 := Aside0.mk hb; have HK1 := Aside0.mk (KeepQ.of_but hk HX0.out.rd.1); have r1 := (blk_cell HX1.out.box 1).trans rfl; have f1 := blk_frozen HX1.out.box 1; clear hi hb hk r0)
  go_ret
  rw [HN.out]
  exact ⟨0, rfl, ⟨false, p', e', HX1.out.flag false, St.fail⟩, fun v q hq => (by cases hq), ⟨Int.le_refl 0, HM.out.1⟩, HB1.out.setCell (p := ⟨gR, 1, none⟩) HX1.out.low (.bool false), HK1.out.set HX1.out.box 1 (.bool false)⟩
 ·have hk1 : decide (most < x) = false := decide_eq_false k
  have hw : IntKind.i64.wrap x = x := by have h1 := HRG.out; have h2 := HM.out; rw [i64_w]; exact wrap_id (by omega) (by omega)
  have hw2 : wrap64 x = x := by have h1 := HRG.out; have h2 := HM.out; exact wrap_id (by omega) (by omega)
  have HN := Aside0.mk (show numO s' most o = o.bind fun p => uS s' p by
   rw [numO_eq]
   cases hl : (o.bind fun p => uS s' p) with
   | none => rfl
   | some b =>
    obtain ⟨v, q⟩ := b
    have hvx := HU.out.2 v q hl
    rw [Option.bind_some, if_pos (by show v ≤ most; have h2 : x = v := hvx; omega)])
  have HK := Aside0.mk (show 0 ≤ x ∧ x ≤ most by have := HRG.out; omega)
  clear k
  go_enter Tryd.func36, Tryd.ntmps36
  go_wp2_with (go_at_call 59; (with_reducible refine (codec_Reader_Unsigned.calls 40 gr s' p0 er0 x s' p' e' w0 _ HG.out HX0.out.rd HB.out HF.out).mono ?_); rintro e w1 ⟨rfl, hi, hb, hk⟩; have HX1 := Aside0.mk (HX0.out.but hk hi HE.out); have HB1 := Aside0.mk hb; have HK1 := Aside0.mk (KeepQ.of_but hk HX0.out.rd.1); have r1 := (blk_cell HX1.out.box 1).trans rfl; have f1 := blk_frozen HX1.out.box 1; clear hi hb hk r0)
  go_ret
  rw [HN.out]
  exact ⟨x, by first | rfl | rw [hw] | rw [hw2], ⟨ok0, p', e', HX1.out, HU.out.1⟩, HU.out.2, HK.out, HB1.out, HK1.out⟩
end Go.Proofs.YtbccjcdmpiolpaaDoor.T
end
section
namespace Go.Proofs.YtbccjcdmpiolpaaDoor.T
open Go.RowKit Go.Proofs.YtbccjcdmpiolpaaDoor.Pure Go.Proofs.YtbccjcdmpiolpaaDoorW.PrintWords Go.Proofs.YtbccjcdmpiolpaaDoorW.PrintLast Go.Proofs.YtbccjcdmpiolpaaDoorW.PrintMore
set_option linter.unusedVariables false
set_option linter.unusedSimpArgs false
attribute [local go_sem] max2_int min2_int max_two min_two
abbrev MI : Int := 6311433599
def recS (s : ByteArray) (o : Option Int) : Option (S44 × Int) :=
 (numO s MI (lstO s 5 o)).bind fun a => (numO s MI (some a.2)).bind fun b => (numO s 3 (some b.2)).bind fun c => (sS s c.2).bind fun d => (numO s 15 (some d.2)).bind fun e => some (⟨a.1, b.1, ⟨c.1, d.1⟩, e.1, 0⟩, e.2)
def loopS (s : ByteArray) (total now n : Int) : Nat → Int → Int → Int → Option (List S44 × Int)
 | 0, _, _, p => some ([], p)
 | d + 1, i, bf, p => (recS s (some p)).bind fun x => if x.1.f0 = total - n + 1 + i ∧ bf ≤ x.1.f1 ∧ x.1.f1 ≤ now then (loopS s total now n d (i + 1) x.1.f1 x.2).map fun r => (x.1 :: r.1, r.2) else none
def bodyS (s : ByteArray) (sz : Int) : Option (Int × Int × List S44) :=
 (numO s MI (lstO s 3 (some 0))).bind fun a => (numO s MI (some a.2)).bind fun b => (lS s b.2).bind fun c => if c.1 = mn a.1 sz then (loopS s a.1 b.1 c.1 c.1.toNat 0 0 c.2).bind fun r => if r.2 = (s.size : Int) then some (a.1, b.1, r.1) else none else none
def restS (s : ByteArray) (sz : Int) : Option (Int × Int × List S44) :=
 ((lstO s 2 (some 0)).bind fun p => tS s p).bind fun a => (tS s a.2).bind fun b => if b.2 = (s.size : Int) ∧ a.1.toList = (digB b.1).toList then bodyS b.1 sz else none
theorem none_map {α β : Type} {o : Option α} {f : α → β} (h : o.map f = none) : o = none := by
 cases o with
 | none => rfl
 | some a => cases h
theorem some_map {α β : Type} {o : Option α} {f : α → β} {b : β} (h : o.map f = some b) : ∃ a, o = some a ∧ f a = b := by
 cases o with
 | none => cases h
 | some a => exact ⟨a, rfl, by injection h⟩
theorem tS_size {s : ByteArray} {p : Int} {t : ByteArray} {e : Int} (h : tS s p = some (t, e)) : t.size ≤ s.size := by
 unfold tS at h
 split at h
 ·split at h
  ·rename_i u q hu
   split at h
   ·cases h
   ·split at h
    ·cases h
    ·injection h with h
     injection h with h1 h2
     subst h1
     have := uS_some hu
     rw [ext_size _ _ _ (by omega) (by omega)]
     omega
  ·cases h
 ·cases h
theorem rest_none {s : ByteArray} {sz : Int} (h : ((((lstO s 2 (some 0)).bind fun p => tS s p).map Prod.snd).bind fun p => tS s p).map Prod.snd = none) : restS s sz = none := by
 have h := none_map h
 unfold restS
 cases h1 : ((lstO s 2 (some 0)).bind fun p => tS s p) with
 | none => rfl
 | some a =>
  rw [h1, Option.map_some, Option.bind_some] at h
  rw [Option.bind_some, h]
  rfl
theorem rest_some {s : ByteArray} {sz p : Int} {xd xb : ByteArray} (h : ((((lstO s 2 (some 0)).bind fun p => tS s p).map Prod.snd).bind fun p => tS s p).map Prod.snd = some p)
  (h1 : ∀ v q, ((lstO s 2 (some 0)).bind fun p => tS s p) = some (v, q) → xd = v) (h2 : ∀ v q, ((((lstO s 2 (some 0)).bind fun p => tS s p).map Prod.snd).bind fun p => tS s p) = some (v, q) → xb = v) :
  restS s sz = (if p = (s.size : Int) ∧ xd.toList = (digB xb).toList then bodyS xb sz else none) ∧ xb.size ≤ s.size ∧ p ≤ (s.size : Int) := by
 obtain ⟨b, hb, he⟩ := some_map h
 obtain ⟨vb, qb⟩ := b
 replace he : qb = p := he
 subst he
 have hb2 := h2 vb qb hb
 subst hb2
 cases ha : ((lstO s 2 (some 0)).bind fun p => tS s p) with
 | none => rw [ha] at hb; cases hb
 | some a =>
  obtain ⟨va, qa⟩ := a
  have ha2 := h1 va qa ha
  subst ha2
  rw [ha, Option.map_some, Option.bind_some] at hb
  unfold restS
  rw [ha, Option.bind_some]
  simp only []
  rw [hb, Option.bind_some]
  exact ⟨rfl, tS_size hb, (tS_some hb).2.2⟩
theorem body_none {s : ByteArray} {sz : Int} (h : ((((numO s MI ((numO s MI (lstO s 3 (some 0))).map Prod.snd)).map Prod.snd).bind fun p => lS s p).map Prod.snd) = none) : bodyS s sz = none := by
 have h := none_map h
 unfold bodyS
 cases h1 : numO s MI (lstO s 3 (some 0)) with
 | none => rfl
 | some a =>
  rw [h1, Option.map_some] at h
  rw [Option.bind_some]
  cases h2 : numO s MI (some a.2) with
  | none => rfl
  | some b =>
   rw [h2, Option.map_some, Option.bind_some] at h
   rw [Option.bind_some, h]
   rfl
theorem body_some {s : ByteArray} {sz p x1 x2 x3 : Int} (h : ((((numO s MI ((numO s MI (lstO s 3 (some 0))).map Prod.snd)).map Prod.snd).bind fun p => lS s p).map Prod.snd) = some p)
  (h1 : ∀ v q, numO s MI (lstO s 3 (some 0)) = some (v, q) → x1 = v) (h2 : ∀ v q, numO s MI ((numO s MI (lstO s 3 (some 0))).map Prod.snd) = some (v, q) → x2 = v) (h3 : ∀ v q, (((numO s MI ((numO s MI (lstO s 3 (some 0))).map Prod.snd)).map Prod.snd).bind fun p => lS s p) = some (v, q) → x3 = v) :
  bodyS s sz = (if x3 = mn x1 sz then (loopS s x1 x2 x3 x3.toNat 0 0 p).bind fun r => if r.2 = (s.size : Int) then some (x1, x2, r.1) else none else none) ∧ 0 ≤ x3 ∧ x3 ≤ 65535 := by
 obtain ⟨c, hc, he⟩ := some_map h
 obtain ⟨vc, qc⟩ := c
 replace he : qc = p := he
 subst he
 have e3 := h3 vc qc hc
 subst e3
 cases ha : numO s MI (lstO s 3 (some 0)) with
 | none => rw [ha] at hc; cases hc
 | some a =>
  obtain ⟨va, qa⟩ := a
  have e1 := h1 va qa ha
  subst e1
  rw [ha, Option.map_some] at hc h2
  cases hb : numO s MI (some qa) with
  | none => rw [hb] at hc; cases hc
  | some b =>
   obtain ⟨vb, qb⟩ := b
   have e2 := h2 vb qb hb
   subst e2
   rw [hb, Option.map_some, Option.bind_some] at hc
   unfold bodyS
   rw [ha, Option.bind_some]
   simp only []
   rw [hb, Option.bind_some]
   simp only []
   rw [hc, Option.bind_some]
   have := lS_some hc
   exact ⟨rfl, this.2.2.2.1, this.2.2.2.2⟩
abbrev o1R (s : ByteArray) (o : Option Int) : Option (Int × Int) := numO s MI (lstO s 5 o)
abbrev o2R (s : ByteArray) (o : Option Int) : Option (Int × Int) := numO s MI ((o1R s o).map Prod.snd)
abbrev o3R (s : ByteArray) (o : Option Int) : Option (Int × Int) := numO s 3 ((o2R s o).map Prod.snd)
abbrev o4R (s : ByteArray) (o : Option Int) : Option (Int × Int) := ((o3R s o).map Prod.snd).bind fun p => sS s p
abbrev o5R (s : ByteArray) (o : Option Int) : Option (Int × Int) := numO s 15 ((o4R s o).map Prod.snd)
theorem rec_none {s : ByteArray} {o : Option Int} (h : (o5R s o).map Prod.snd = none) : recS s o = none := by
 have h := none_map h
 unfold o5R o4R o3R o2R o1R at h
 unfold recS
 cases h1 : numO s MI (lstO s 5 o) with
 | none => rfl
 | some a =>
  rw [h1, Option.map_some] at h
  rw [Option.bind_some]
  cases h2 : numO s MI (some a.2) with
  | none => rfl
  | some b =>
   rw [h2, Option.map_some] at h
   rw [Option.bind_some]
   cases h3 : numO s 3 (some b.2) with
   | none => rfl
   | some c =>
    rw [h3, Option.map_some, Option.bind_some] at h
    rw [Option.bind_some]
    cases h4 : sS s c.2 with
    | none => rfl
    | some d =>
     rw [h4, Option.map_some] at h
     rw [Option.bind_some, h]
     rfl
theorem rec_some {s : ByteArray} {o : Option Int} {p x0 x1 x2 x3 x4 : Int} (h : (o5R s o).map Prod.snd = some p)
  (e0 : ∀ v q, o1R s o = some (v, q) → x0 = v) (e1 : ∀ v q, o2R s o = some (v, q) → x1 = v) (e2 : ∀ v q, o3R s o = some (v, q) → x2 = v) (e3 : ∀ v q, o4R s o = some (v, q) → x3 = v) (e4 : ∀ v q, o5R s o = some (v, q) → x4 = v) :
  recS s o = some (⟨x0, x1, ⟨x2, x3⟩, x4, 0⟩, p) := by
 unfold o5R at h e4
 unfold o4R at h e3 e4
 unfold o3R at h e2 e3 e4
 unfold o2R at h e1 e2 e3 e4
 unfold o1R at h e0 e1 e2 e3 e4
 unfold recS
 cases h1 : numO s MI (lstO s 5 o) with
 | none => rw [h1] at h; cases h
 | some a =>
  obtain ⟨va, qa⟩ := a
  have := e0 va qa h1
  subst this
  rw [h1, Option.map_some] at h e1 e2 e3 e4
  rw [Option.bind_some]
  simp only []
  cases h2 : numO s MI (some qa) with
  | none => rw [h2] at h; cases h
  | some b =>
   obtain ⟨vb, qb⟩ := b
   have := e1 vb qb h2
   subst this
   rw [h2, Option.map_some] at h e2 e3 e4
   rw [Option.bind_some]
   simp only []
   cases h3 : numO s 3 (some qb) with
   | none => rw [h3] at h; cases h
   | some c =>
    obtain ⟨vc, qc⟩ := c
    have := e2 vc qc h3
    subst this
    rw [h3, Option.map_some, Option.bind_some] at h e3 e4
    rw [Option.bind_some]
    simp only []
    cases h4 : sS s qc with
    | none => rw [h4] at h; cases h
    | some d =>
     obtain ⟨vd, qd⟩ := d
     have := e3 vd qd h4
     subst this
     rw [h4, Option.map_some] at h e4
     rw [Option.bind_some]
     simp only []
     cases h5 : numO s 15 (some qd) with
     | none => rw [h5] at h; cases h
     | some f =>
      obtain ⟨vf, qf⟩ := f
      have := e4 vf qf h5
      subst this
      rw [h5, Option.map_some] at h
      injection h with h
      rw [Option.bind_some]
      simp only []
      rw [← h]
end Go.Proofs.YtbccjcdmpiolpaaDoor.T
end
