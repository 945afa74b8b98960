/- CodecWritesCard: one part of the proof that the law answers true for every input, and that its arguments read afterwards as before. No condition. -/
import Derived.Test.YtndeikikeeeigaaDoorCWrites1
import Derived.Outline
import Derived.Deep.OwnRows
import Derived.LoopTactic
import Derived.ProofKit
import Derived.Deep.Slices
import Derived.SizedLaws
import Derived.OpenShut
import Derived.DataReads
import Derived.SevenTiedAt
import Derived.WalkKit
import Derived.ShutString
import Derived.ChangeOld
import Derived.Below
import Derived.Test.YtndeikikeeeigaaDoorCards
import Derived.Test.YtndeikikeeeigaaDoorRows
import Derived.Test.YtndeikikeeeigaaDoorTie
section
namespace Go.Proofs.YtndeikikeeeigaaDoor.Q
open Go.RowKit Go.Proofs.YtndeikikeeeigaaDoorW.PrintWords Go.Proofs.YtndeikikeeeigaaDoorW.PrintLast Go.Proofs.YtndeikikeeeigaaDoorW.PrintMore
attribute [local go_sem] max2_int min2_int max_two min_two max_three min_three max_four min_four
set_option linter.unusedVariables false
set_option linter.unusedSimpArgs false
mutual
def codec_skip.j0 : Nat → ByteArray → Int → Int → Int → Int → Bool → Option (Int × Int × Bool)
  | 0, _, _, _, _, _, _ => none
  | k + 1, x0, x1, x2, x9, x26, x27 => if x27 = true then (some (wrap64 (x1 + 1), 0, true)) else (if x26 = 3 then (codec_skip.j1 k x0 x1 x2 x9 x26 (x26 == 3)) else (codec_skip.j1 k x0 x1 x2 x9 x26 (x26 == 4)))
def codec_skip.j1 : Nat → ByteArray → Int → Int → Int → Int → Bool → Option (Int × Int × Bool)
  | 0, _, _, _, _, _, _ => none
  | k + 1, x0, x1, x2, x9, x26, x32 => if x32 = true then ((codec_raw.f k x0 x1 x9).bind fun bt116 => (some (bt116.2.1, 0, bt116.2.2))) else (if x26 = 5 then ((codec_text.f k x0 x1).bind fun bt119 => (some (bt119.2.1, 0, bt119.2.2))) else (if x26 = 6 then ((codec_list.f k x0 x1).bind fun bt122 => (if bt122.2.2 = true then (codec_skip.j2 k x0 x2 bt122.1 bt122.2.1 (x2 == 0)) else (codec_skip.j2 k x0 x2 bt122.1 bt122.2.1 true))) else (some (0, 0, false))))
def codec_skip.j2 : Nat → ByteArray → Int → Int → Int → Bool → Option (Int × Int × Bool)
  | 0, _, _, _, _, _ => none
  | k + 1, x0, x2, x16, x17, x70 => if x70 = true then (some (0, 0, false)) else (codec_skip.l0 k x0 x2 x17 0 x16 0)
def codec_skip.l0 : Nat → ByteArray → Int → Int → Int → Int → Int → Option (Int × Int × Bool)
  | 0, _, _, _, _, _, _ => none
  | k + 1, x0, x2, x17, x19, x71, x72 => if x72 < x71 then ((codec_skip.f k x0 x17 (wrap64 (x2 - 1))).bind fun bt125 => (if bt125.2.2 = true then (codec_skip.l0 k x0 x2 bt125.1 (mx x19 bt125.2.1) x71 (wrap64 (x72 + 1))) else (some (0, 0, false)))) else (some (x17, wrap64 (x19 + 1), true))
def codec_skip.f : Nat → ByteArray → Int → Int → Option (Int × Int × Bool)
  | 0, _, _, _ => none
  | k + 1, a0, a1, a2 => (codec_kind.f k a0 a1).bind fun t115 => (if t115 = 1 then (codec_skip.j0 k a0 a1 a2 t115 t115 (t115 == 1)) else (codec_skip.j0 k a0 a1 a2 t115 t115 (t115 == 2)))
end
theorem codec_skip.mono_l : ∀ k, (∀ y0 y1 y2, LeO (codec_skip.f k y0 y1 y2) (codec_skip.f (k + 1) y0 y1 y2)) ∧ (∀ y0 y1 y2 y3 y4 y5, LeO (codec_skip.j0 k y0 y1 y2 y3 y4 y5) (codec_skip.j0 (k + 1) y0 y1 y2 y3 y4 y5)) ∧ (∀ y0 y1 y2 y3 y4 y5, LeO (codec_skip.j1 k y0 y1 y2 y3 y4 y5) (codec_skip.j1 (k + 1) y0 y1 y2 y3 y4 y5)) ∧ (∀ y0 y1 y2 y3 y4, LeO (codec_skip.j2 k y0 y1 y2 y3 y4) (codec_skip.j2 (k + 1) y0 y1 y2 y3 y4)) ∧ (∀ y0 y1 y2 y3 y4 y5, LeO (codec_skip.l0 k y0 y1 y2 y3 y4 y5) (codec_skip.l0 (k + 1) y0 y1 y2 y3 y4 y5))
  | 0 => ⟨fun _ _ _ r h => by simp [codec_skip.f] at h, fun _ _ _ _ _ _ r h => by simp [codec_skip.j0] at h, fun _ _ _ _ _ _ r h => by simp [codec_skip.j1] at h, fun _ _ _ _ _ r h => by simp [codec_skip.j2] at h, fun _ _ _ _ _ _ r h => by simp [codec_skip.l0] at h⟩
  | k + 1 => by
    obtain ⟨ih0, ih1, ih2, ih3, ih4⟩ := codec_skip.mono_l k
    refine ⟨?_, ?_, ?_, ?_, ?_⟩
    · intro y0 y1 y2
      unfold codec_skip.f
      repeat' first
      | (with_reducible exact ih0 _ _ _)
      | (with_reducible exact ih1 _ _ _ _ _ _)
      | (with_reducible exact ih2 _ _ _ _ _ _)
      | (with_reducible exact ih3 _ _ _ _ _)
      | (with_reducible exact ih4 _ _ _ _ _ _)
      | (with_reducible exact codec_kind.mono _ _ _)
      | (with_reducible exact codec_list.mono _ _ _)
      | (with_reducible exact codec_raw.mono _ _ _ _)
      | (with_reducible exact codec_text.mono _ _ _)
      | (with_reducible exact LeO.refl _)
      | (with_reducible exact LeO.none _)
      | (with_reducible refine LeO.ite ?_ ?_)
      | (with_reducible refine LeO.bind ?_ (fun _ => ?_))
      | exact ih0 _ _ _
      | exact ih1 _ _ _ _ _ _
      | exact ih2 _ _ _ _ _ _
      | exact ih3 _ _ _ _ _
      | exact ih4 _ _ _ _ _ _
      | exact codec_kind.mono _ _ _
      | exact codec_list.mono _ _ _
      | exact codec_raw.mono _ _ _ _
      | exact codec_text.mono _ _ _
      | exact LeO.none _
      | refine LeO.ite ?_ ?_
      | refine LeO.bind ?_ (fun _ => ?_)
    · intro y0 y1 y2 y3 y4 y5
      unfold codec_skip.j0
      repeat' first
      | (with_reducible exact ih0 _ _ _)
      | (with_reducible exact ih1 _ _ _ _ _ _)
      | (with_reducible exact ih2 _ _ _ _ _ _)
      | (with_reducible exact ih3 _ _ _ _ _)
      | (with_reducible exact ih4 _ _ _ _ _ _)
      | (with_reducible exact codec_kind.mono _ _ _)
      | (with_reducible exact codec_list.mono _ _ _)
      | (with_reducible exact codec_raw.mono _ _ _ _)
      | (with_reducible exact codec_text.mono _ _ _)
      | (with_reducible exact LeO.refl _)
      | (with_reducible exact LeO.none _)
      | (with_reducible refine LeO.ite ?_ ?_)
      | (with_reducible refine LeO.bind ?_ (fun _ => ?_))
      | exact ih0 _ _ _
      | exact ih1 _ _ _ _ _ _
      | exact ih2 _ _ _ _ _ _
      | exact ih3 _ _ _ _ _
      | exact ih4 _ _ _ _ _ _
      | exact codec_kind.mono _ _ _
      | exact codec_list.mono _ _ _
      | exact codec_raw.mono _ _ _ _
      | exact codec_text.mono _ _ _
      | exact LeO.none _
      | refine LeO.ite ?_ ?_
      | refine LeO.bind ?_ (fun _ => ?_)
    · intro y0 y1 y2 y3 y4 y5
      unfold codec_skip.j1
      repeat' first
      | (with_reducible exact ih0 _ _ _)
      | (with_reducible exact ih1 _ _ _ _ _ _)
      | (with_reducible exact ih2 _ _ _ _ _ _)
      | (with_reducible exact ih3 _ _ _ _ _)
      | (with_reducible exact ih4 _ _ _ _ _ _)
      | (with_reducible exact codec_kind.mono _ _ _)
      | (with_reducible exact codec_list.mono _ _ _)
      | (with_reducible exact codec_raw.mono _ _ _ _)
      | (with_reducible exact codec_text.mono _ _ _)
      | (with_reducible exact LeO.refl _)
      | (with_reducible exact LeO.none _)
      | (with_reducible refine LeO.ite ?_ ?_)
      | (with_reducible refine LeO.bind ?_ (fun _ => ?_))
      | exact ih0 _ _ _
      | exact ih1 _ _ _ _ _ _
      | exact ih2 _ _ _ _ _ _
      | exact ih3 _ _ _ _ _
      | exact ih4 _ _ _ _ _ _
      | exact codec_kind.mono _ _ _
      | exact codec_list.mono _ _ _
      | exact codec_raw.mono _ _ _ _
      | exact codec_text.mono _ _ _
      | exact LeO.none _
      | refine LeO.ite ?_ ?_
      | refine LeO.bind ?_ (fun _ => ?_)
    · intro y0 y1 y2 y3 y4
      unfold codec_skip.j2
      repeat' first
      | (with_reducible exact ih0 _ _ _)
      | (with_reducible exact ih1 _ _ _ _ _ _)
      | (with_reducible exact ih2 _ _ _ _ _ _)
      | (with_reducible exact ih3 _ _ _ _ _)
      | (with_reducible exact ih4 _ _ _ _ _ _)
      | (with_reducible exact codec_kind.mono _ _ _)
      | (with_reducible exact codec_list.mono _ _ _)
      | (with_reducible exact codec_raw.mono _ _ _ _)
      | (with_reducible exact codec_text.mono _ _ _)
      | (with_reducible exact LeO.refl _)
      | (with_reducible exact LeO.none _)
      | (with_reducible refine LeO.ite ?_ ?_)
      | (with_reducible refine LeO.bind ?_ (fun _ => ?_))
      | exact ih0 _ _ _
      | exact ih1 _ _ _ _ _ _
      | exact ih2 _ _ _ _ _ _
      | exact ih3 _ _ _ _ _
      | exact ih4 _ _ _ _ _ _
      | exact codec_kind.mono _ _ _
      | exact codec_list.mono _ _ _
      | exact codec_raw.mono _ _ _ _
      | exact codec_text.mono _ _ _
      | exact LeO.none _
      | refine LeO.ite ?_ ?_
      | refine LeO.bind ?_ (fun _ => ?_)
    · intro y0 y1 y2 y3 y4 y5
      unfold codec_skip.l0
      repeat' first
      | (with_reducible exact ih0 _ _ _)
      | (with_reducible exact ih1 _ _ _ _ _ _)
      | (with_reducible exact ih2 _ _ _ _ _ _)
      | (with_reducible exact ih3 _ _ _ _ _)
      | (with_reducible exact ih4 _ _ _ _ _ _)
      | (with_reducible exact codec_kind.mono _ _ _)
      | (with_reducible exact codec_list.mono _ _ _)
      | (with_reducible exact codec_raw.mono _ _ _ _)
      | (with_reducible exact codec_text.mono _ _ _)
      | (with_reducible exact LeO.refl _)
      | (with_reducible exact LeO.none _)
      | (with_reducible refine LeO.ite ?_ ?_)
      | (with_reducible refine LeO.bind ?_ (fun _ => ?_))
      | exact ih0 _ _ _
      | exact ih1 _ _ _ _ _ _
      | exact ih2 _ _ _ _ _ _
      | exact ih3 _ _ _ _ _
      | exact ih4 _ _ _ _ _ _
      | exact codec_kind.mono _ _ _
      | exact codec_list.mono _ _ _
      | exact codec_raw.mono _ _ _ _
      | exact codec_text.mono _ _ _
      | exact LeO.none _
      | refine LeO.ite ?_ ?_
      | refine LeO.bind ?_ (fun _ => ?_)
theorem codec_skip.mono : ∀ a0 a1 a2 k, LeO (codec_skip.f k a0 a1 a2) (codec_skip.f (k + 1) a0 a1 a2) := by
  intro a0 a1 a2 k
  obtain ⟨ih0, ih1, ih2, ih3, ih4⟩ := codec_skip.mono_l k
  exact ih0 a0 a1 a2
set_option maxHeartbeats 8000000 in
set_option maxRecDepth 100000 in
theorem codec_skip.calls (k : Nat) : ∀ (a0 : ByteArray) (a1 : Int) (a2 : Int) (r1 : Int) (r2 : Int) (r3 : Bool) (w : World) (hG : Glob w) (h : codec_skip.f k a0 a1 a2 = some (r1, r2, r3)),
    Calls Tryd.prog 36 #[.string a0, .int .i64 a1, .int .i64 a2] w fun e w' => e = .returned (.tuple #[.int .i64 r1, .int .i64 r2, .bool r3]) ∧ Below w.heap.size w w' := by
  induction k using Nat.strongRecOn with
  | _ k ih =>
  intro a0 a1 a2 r1 r2 r3 w hG h
  cases k with
  | zero => exact absurd h (by simp [codec_skip.f])
  | succ k =>
  simp only [codec_skip.f] at h
  have HG := Aside0.mk hG
  clear hG
  have HB := Aside0.mk (Below.refl w.heap.size w)
  have H : ((codec_kind.f k a0 a1).bind fun t115 => (if t115 = 1 then (codec_skip.j0 k a0 a1 a2 t115 t115 (t115 == 1)) else (codec_skip.j0 k a0 a1 a2 t115 t115 (t115 == 2)))) = some (r1, r2, r3) := h
  clear h
  replace H := Option.bind_eq_some_iff.mp H
  obtain ⟨t115, A40, H⟩ := H
  replace H : (if t115 = 1 then (codec_skip.j0 k a0 a1 a2 t115 t115 (t115 == 1)) else (codec_skip.j0 k a0 a1 a2 t115 t115 (t115 == 2))) = some (r1, r2, r3) := H
  have A4 := Aside0.mk A40
  clear A40
  have HC5 := Aside0.mk H
  clear H
  go_enter Tryd.func36, Tryd.ntmps36
  go_upto_if 27 with (first | ((with_reducible refine gate_callee (f := 49) rfl ?_); refine goesL_ (some 25) rfl rfl Tryd.func49 (by kernel_rfl) rfl #[.string a0, .int .i64 a1] rfl (by (try simp only [List.map_toArray, List.map_cons, List.map_nil]); first | done | rfl | (simp only [List.length_drop, List.length_take]; rfl)) ?_; (with_reducible refine (codec_kind.calls k a0 a1 t115 _ ?side99  A4.out).mono ?_); (case side99 => first | exact HG.out | exact Glob.below HG.out (by repeat (first | (with_reducible first | exact HB.out | apply below_alloc | apply pw_below_drewN | apply below_drew1) | exact HB.out))); rintro e w' ⟨rfl, ⟨nd, rfl⟩⟩; refine ⟨_, rfl, ?_⟩))
  (try simp only [Act.put, List.setIfInBounds_toArray, List.set_cons_zero, List.set_cons_succ])
  go_cut [27] (fun v27 wc => ∃ (kq : Nat) (x27_4 : Bool), v27 = .bool x27_4 ∧ Aside0 (codec_skip.j0 kq a0 a1 a2 t115 t115 x27_4 = some (r1, r2, r3)) ∧ Aside0 (kq ≤ k) ∧ Aside0 (Below w.heap.size w wc))
  case first =>
    have H := HC5.out
    clear HC5
    by_cases c6 : t115 = 1
    · rw [if_pos c6] at H
      have c6b0 : (t115 == 1) = true := beq_iff_eq.mpr c6
      have c6b1 : (t115 != 1) = false := bne_eq_false_iff_eq.mpr c6
      clear c6
      (first | rw [c6b0] | (simp only [i64_w, i32_w]; rw [c6b0]) | skip)
      have H' := Aside0.mk H
      clear H
      go_wp2
      go_meet
      case rel => exact ⟨_, ((t115 == 1)), (by first | rfl | (simp; done) | (simp [*]; done)), H', ⟨by first | omega | exact Nat.le_refl _⟩, ⟨by repeat (first | (with_reducible first | exact HB.out | apply below_alloc | apply pw_below_drewN | apply below_drew1) | exact HB.out)⟩⟩
    · rw [if_neg c6] at H
      have c6b0 : (t115 == 1) = false := beq_eq_false_iff_ne.mpr c6
      have c6b1 : (t115 != 1) = true := bne_iff_ne.mpr c6
      (first | rw [c6b0] | (simp only [i64_w, i32_w]; rw [c6b0]) | skip)
      have H' := Aside0.mk H
      clear H
      go_wp2
      go_meet
      case rel => exact ⟨_, ((t115 == 2)), (by first | rfl | (simp; done) | (simp [*]; done)), H', ⟨by first | omega | exact Nat.le_refl _⟩, ⟨by repeat (first | (with_reducible first | exact HB.out | apply below_alloc | apply pw_below_drewN | apply below_drew1) | exact HB.out)⟩⟩
  case rest =>
    clear HC5
    try clear p2
    try clear c3
    try clear c4
    try clear c6
    try clear c6b0
    try clear c6b1
    obtain ⟨kq, x27_4, rfl, HA, HJ4, HB⟩ := hcut
    cases kq with
    | zero => exact absurd HA.out (by simp [codec_skip.j0])
    | succ kj4 =>
      have H := HA.out
      clear HA
      simp only [codec_skip.j0] at H
      by_cases c7 : x27_4 = true
      · subst c7
        have H1 : (some (wrap64 (a1 + 1), 0, true)) = some (r1, r2, r3) := by rw [if_pos rfl] at H; exact H
        clear H
        have H := H1
        clear H1
        simp only [Option.some.injEq, Prod.mk.injEq] at H
        obtain ⟨rfl, rfl, rfl⟩ := H
        go_wp2
        go_ret3
        exact ⟨by first | rfl | (simp [errW_none, errW_some] <;> rfl) | (simp [*, errW_none, errW_some] <;> rfl), by repeat (first | (with_reducible first | exact HB.out | apply below_alloc | apply pw_below_drewN | apply below_drew1) | exact HB.out)⟩
      · replace c7 := Bool.eq_false_iff.mpr c7
        subst c7
        have H1 : (if t115 = 3 then (codec_skip.j1 kj4 a0 a1 a2 t115 t115 (t115 == 3)) else (codec_skip.j1 kj4 a0 a1 a2 t115 t115 (t115 == 4))) = some (r1, r2, r3) := by rw [if_neg (show ¬ (false = true) by decide)] at H; exact H
        clear H
        have H := H1
        clear H1
        have HC8 := Aside0.mk H
        clear H
        go_upto_if 32 with (fail)
        go_cut [32] (fun v32 wc => ∃ (kq : Nat) (x32_7 : Bool), v32 = .bool x32_7 ∧ Aside0 (codec_skip.j1 kq a0 a1 a2 t115 t115 x32_7 = some (r1, r2, r3)) ∧ Aside0 (kq ≤ kj4) ∧ Aside0 (Below w.heap.size w wc))
        case first =>
          have H := HC8.out
          clear HC8
          by_cases c9 : t115 = 3
          · rw [if_pos c9] at H
            have c9b0 : (t115 == 3) = true := beq_iff_eq.mpr c9
            have c9b1 : (t115 != 3) = false := bne_eq_false_iff_eq.mpr c9
            clear c9
            (first | rw [c9b0] | (simp only [i64_w, i32_w]; rw [c9b0]) | skip)
            have H' := Aside0.mk H
            clear H
            go_wp2
            go_meet
            case rel => exact ⟨_, ((t115 == 3)), (by first | rfl | (simp; done) | (simp [*]; done)), H', ⟨by have := HJ4.out; first | omega | exact Nat.le_refl _⟩, ⟨by repeat (first | (with_reducible first | exact HB.out | apply below_alloc | apply pw_below_drewN | apply below_drew1) | exact HB.out)⟩⟩
          · rw [if_neg c9] at H
            have c9b0 : (t115 == 3) = false := beq_eq_false_iff_ne.mpr c9
            have c9b1 : (t115 != 3) = true := bne_iff_ne.mpr c9
            (first | rw [c9b0] | (simp only [i64_w, i32_w]; rw [c9b0]) | skip)
            have H' := Aside0.mk H
            clear H
            go_wp2
            go_meet
            case rel => exact ⟨_, ((t115 == 4)), (by first | rfl | (simp; done) | (simp [*]; done)), H', ⟨by have := HJ4.out; first | omega | exact Nat.le_refl _⟩, ⟨by repeat (first | (with_reducible first | exact HB.out | apply below_alloc | apply pw_below_drewN | apply below_drew1) | exact HB.out)⟩⟩
        case rest =>
          clear HC8
          try clear p2
          try clear c3
          try clear c4
          try clear c6
          try clear c6b0
          try clear c6b1
          try clear p6
          try clear c7
          try clear c9
          try clear c9b0
          try clear c9b1
          try clear p2
          obtain ⟨kq, x32_7, rfl, HA, HJ7, HB⟩ := hcut
          cases kq with
          | zero => exact absurd HA.out (by simp [codec_skip.j1])
          | succ kj7 =>
            have H := HA.out
            clear HA
            simp only [codec_skip.j1] at H
            by_cases c10 : x32_7 = true
            · subst c10
              have H1 : ((codec_raw.f kj7 a0 a1 t115).bind fun bt116 => (some (bt116.2.1, 0, bt116.2.2))) = some (r1, r2, r3) := by rw [if_pos rfl] at H; exact H
              clear H
              have H := H1
              clear H1
              replace H := Option.bind_eq_some_iff.mp H
              obtain ⟨⟨t116, t117, t118⟩, A110, H⟩ := H
              replace H : (some (t117, 0, t118)) = some (r1, r2, r3) := H
              have A11 := Aside0.mk A110
              clear A110
              simp only [Option.some.injEq, Prod.mk.injEq] at H
              obtain ⟨rfl, rfl, rfl⟩ := H
              go_wp2_with (first | ((with_reducible refine gate_callee (f := 52) rfl ?_); refine goesL_ (some 39) rfl rfl Tryd.func52 (by kernel_rfl) rfl #[.string a0, .int .i64 a1, .int .i64 t115] rfl (by (try simp only [List.map_toArray, List.map_cons, List.map_nil]); first | done | rfl | (simp only [List.length_drop, List.length_take]; rfl)) ?_; (with_reducible refine (codec_raw.calls kj7 a0 a1 t115 t116 t117 t118 _ ?side99  A11.out).mono ?_); (case side99 => first | exact HG.out | exact Glob.below HG.out (by repeat (first | (with_reducible first | exact HB.out | apply below_alloc | apply pw_below_drewN | apply below_drew1) | exact HB.out))); rintro e w12 ⟨rfl, hb⟩; refine ⟨_, rfl, ?_⟩; have n0_ := Aside0.mk (below_step (by repeat (first | (with_reducible first | exact HB.out | apply below_alloc | apply pw_below_drewN | apply below_drew1) | exact HB.out)) hb); clear HB; have HB := n0_; clear n0_; (try clear hb); (try clear hb2); (try clear hk); (try clear hi)))
              go_ret3
              exact ⟨by first | rfl | (simp [errW_none, errW_some] <;> rfl) | (simp [*, errW_none, errW_some] <;> rfl), by repeat (first | (with_reducible first | exact HB.out | apply below_alloc | apply pw_below_drewN | apply below_drew1) | exact HB.out)⟩
            · replace c10 := Bool.eq_false_iff.mpr c10
              subst c10
              have H1 : (if t115 = 5 then ((codec_text.f kj7 a0 a1).bind fun bt119 => (some (bt119.2.1, 0, bt119.2.2))) else (if t115 = 6 then ((codec_list.f kj7 a0 a1).bind fun bt122 => (if bt122.2.2 = true then (codec_skip.j2 kj7 a0 a2 bt122.1 bt122.2.1 (a2 == 0)) else (codec_skip.j2 kj7 a0 a2 bt122.1 bt122.2.1 true))) else (some (0, 0, false)))) = some (r1, r2, r3) := by rw [if_neg (show ¬ (false = true) by decide)] at H; exact H
              clear H
              have H := H1
              clear H1
              by_cases c13 : t115 = 5
              · rw [if_pos c13] at H
                have c13b0 : (t115 == 5) = true := beq_iff_eq.mpr c13
                have c13b1 : (t115 != 5) = false := bne_eq_false_iff_eq.mpr c13
                clear c13
                replace H := Option.bind_eq_some_iff.mp H
                obtain ⟨⟨t119, t120, t121⟩, A140, H⟩ := H
                replace H : (some (t120, 0, t121)) = some (r1, r2, r3) := H
                have A14 := Aside0.mk A140
                clear A140
                simp only [Option.some.injEq, Prod.mk.injEq] at H
                obtain ⟨rfl, rfl, rfl⟩ := H
                go_wp2_with (first | ((with_reducible refine gate_callee (f := 55) rfl ?_); refine goesL_ (some 50) rfl rfl Tryd.func55 (by kernel_rfl) rfl #[.string a0, .int .i64 a1] rfl (by (try simp only [List.map_toArray, List.map_cons, List.map_nil]); first | done | rfl | (simp only [List.length_drop, List.length_take]; rfl)) ?_; (with_reducible refine (codec_text.calls kj7 a0 a1 t119 t120 t121 _ ?side99  A14.out).mono ?_); (case side99 => first | exact HG.out | exact Glob.below HG.out (by repeat (first | (with_reducible first | exact HB.out | apply below_alloc | apply pw_below_drewN | apply below_drew1) | exact HB.out))); rintro e w15 ⟨rfl, hb⟩; refine ⟨_, rfl, ?_⟩; have n0_ := Aside0.mk (below_step (by repeat (first | (with_reducible first | exact HB.out | apply below_alloc | apply pw_below_drewN | apply below_drew1) | exact HB.out)) hb); clear HB; have HB := n0_; clear n0_; (try clear hb); (try clear hb2); (try clear hk); (try clear hi)))
                go_ret3
                exact ⟨by first | rfl | (simp [errW_none, errW_some] <;> rfl) | (simp [*, errW_none, errW_some] <;> rfl), by repeat (first | (with_reducible first | exact HB.out | apply below_alloc | apply pw_below_drewN | apply below_drew1) | exact HB.out)⟩
              · rw [if_neg c13] at H
                have c13b0 : (t115 == 5) = false := beq_eq_false_iff_ne.mpr c13
                have c13b1 : (t115 != 5) = true := bne_iff_ne.mpr c13
                by_cases c16 : t115 = 6
                · rw [if_pos c16] at H
                  have c16b0 : (t115 == 6) = true := beq_iff_eq.mpr c16
                  have c16b1 : (t115 != 6) = false := bne_eq_false_iff_eq.mpr c16
                  clear c16
                  replace H := Option.bind_eq_some_iff.mp H
                  obtain ⟨⟨t122, t123, t124⟩, A170, H⟩ := H
                  replace H : (if t124 = true then (codec_skip.j2 kj7 a0 a2 t122 t123 (a2 == 0)) else (codec_skip.j2 kj7 a0 a2 t122 t123 true)) = some (r1, r2, r3) := H
                  have A17 := Aside0.mk A170
                  clear A170
                  have HC18 := Aside0.mk H
                  clear H
                  go_upto_region 15 with (first | ((with_reducible refine gate_callee (f := 57) rfl ?_); refine goesL_ (some 61) rfl rfl Tryd.func57 (by kernel_rfl) rfl #[.string a0, .int .i64 a1] rfl (by (try simp only [List.map_toArray, List.map_cons, List.map_nil]); first | done | rfl | (simp only [List.length_drop, List.length_take]; rfl)) ?_; (with_reducible refine (codec_list.calls kj7 a0 a1 t122 t123 t124 _ ?side99  A17.out).mono ?_); (case side99 => first | exact HG.out | exact Glob.below HG.out (by repeat (first | (with_reducible first | exact HB.out | apply below_alloc | apply pw_below_drewN | apply below_drew1) | exact HB.out))); rintro e w19 ⟨rfl, hb⟩; refine ⟨_, rfl, ?_⟩; have n0_ := Aside0.mk (below_step (by repeat (first | (with_reducible first | exact HB.out | apply below_alloc | apply pw_below_drewN | apply below_drew1) | exact HB.out)) hb); clear HB; have HB := n0_; clear n0_; (try clear hb); (try clear hb2); (try clear hk); (try clear hi)))
                  (try simp only [Act.put, List.setIfInBounds_toArray, List.set_cons_zero, List.set_cons_succ])
                  go_cut [70] (fun v70 wc => ∃ (kq : Nat) (x70_17 : Bool), v70 = .bool x70_17 ∧ Aside0 (codec_skip.j2 kq a0 a2 t122 t123 x70_17 = some (r1, r2, r3)) ∧ Aside0 (kq ≤ kj7) ∧ Aside0 (Below w.heap.size w wc))
                  case first =>
                    have H := HC18.out
                    clear HC18
                    by_cases c20 : t124 = true
                    · subst c20
                      have H1 : (codec_skip.j2 kj7 a0 a2 t122 t123 (a2 == 0)) = some (r1, r2, r3) := by rw [if_pos rfl] at H; exact H
                      clear H
                      have H := H1
                      clear H1
                      have H' := Aside0.mk H
                      clear H
                      go_wp2
                      go_meet
                      case rel => exact ⟨_, ((a2 == 0)), (by first | rfl | (simp; done) | (simp [*]; done)), H', ⟨by have := HJ4.out; have := HJ7.out; first | omega | exact Nat.le_refl _⟩, ⟨by repeat (first | (with_reducible first | exact HB.out | apply below_alloc | apply pw_below_drewN | apply below_drew1) | exact HB.out)⟩⟩
                    · replace c20 := Bool.eq_false_iff.mpr c20
                      subst c20
                      have H1 : (codec_skip.j2 kj7 a0 a2 t122 t123 true) = some (r1, r2, r3) := by rw [if_neg (show ¬ (false = true) by decide)] at H; exact H
                      clear H
                      have H := H1
                      clear H1
                      have H' := Aside0.mk H
                      clear H
                      go_wp2
                      go_meet
                      case rel => exact ⟨_, (true), (by first | rfl | (simp; done) | (simp [*]; done)), H', ⟨by have := HJ4.out; have := HJ7.out; first | omega | exact Nat.le_refl _⟩, ⟨by repeat (first | (with_reducible first | exact HB.out | apply below_alloc | apply pw_below_drewN | apply below_drew1) | exact HB.out)⟩⟩
                  case rest =>
                    clear HC18
                    try clear c1
                    try clear c2
                    try clear p2
                    try clear c3
                    try clear c4
                    try clear c5
                    try clear c6
                    try clear c6b0
                    try clear c6b1
                    try clear p6
                    try clear c7
                    try clear c9
                    try clear c9b0
                    try clear c9b1
                    try clear c10
                    try clear c13
                    try clear c13b0
                    try clear c13b1
                    try clear c16
                    try clear c16b0
                    try clear c16b1
                    try clear c20
                    try clear p2
                    try clear p6
                    obtain ⟨kq, x70_17, rfl, HA, HJ17, HB⟩ := hcut
                    cases kq with
                    | zero => exact absurd HA.out (by simp [codec_skip.j2])
                    | succ kj17 =>
                      have H := HA.out
                      clear HA
                      simp only [codec_skip.j2] at H
                      by_cases c21 : x70_17 = true
                      · subst c21
                        have H1 : (some (0, 0, false)) = some (r1, r2, r3) := by rw [if_pos rfl] at H; exact H
                        clear H
                        have H := H1
                        clear H1
                        simp only [Option.some.injEq, Prod.mk.injEq] at H
                        obtain ⟨rfl, rfl, rfl⟩ := H
                        go_wp2
                        go_ret3
                        exact ⟨by first | rfl | (simp [errW_none, errW_some] <;> rfl) | (simp [*, errW_none, errW_some] <;> rfl), by repeat (first | (with_reducible first | exact HB.out | apply below_alloc | apply pw_below_drewN | apply below_drew1) | exact HB.out)⟩
                      · replace c21 := Bool.eq_false_iff.mpr c21
                        subst c21
                        have H1 : (codec_skip.l0 kj17 a0 a2 t123 0 t122 0) = some (r1, r2, r3) := by rw [if_neg (show ¬ (false = true) by decide)] at H; exact H
                        clear H
                        have H := H1
                        clear H1
                        have H' := Aside0.mk H
                        clear H
                        go_wp2
                        go_loopg [17, 19, 72] kj17 (fun kq v17 v19 v72 w' => ∃ (x17_4 : Int) (x19_4 : Int) (x72_4 : Int), v17 = .int .i64 x17_4 ∧ v19 = .int .i64 x19_4 ∧ v72 = .int .i64 x72_4 ∧ Aside0 (codec_skip.l0 kq a0 a2 x17_4 x19_4 t122 x72_4 = some (r1, r2, r3)) ∧ Aside0 (kq ≤ kj17) ∧ Aside0 (Below w.heap.size w w'))
                        case atStart => exact ⟨(t123), (0), (0), (by first | rfl | (simp; done) | (simp [*]; done)), (by first | rfl | (simp; done) | (simp [*]; done)), (by first | rfl | (simp; done) | (simp [*]; done)), H', ⟨Nat.le_refl _⟩, ⟨by repeat (first | (with_reducible first | exact HB.out | apply below_alloc | apply pw_below_drewN | apply below_drew1) | exact HB.out)⟩⟩
                        case round =>
                          clear H'
                          try clear c1
                          try clear c2
                          try clear p2
                          try clear c3
                          try clear c4
                          try clear c5
                          try clear c6
                          try clear c6b0
                          try clear c6b1
                          try clear p6
                          try clear c7
                          try clear c9
                          try clear c9b0
                          try clear c9b1
                          try clear c10
                          try clear c13
                          try clear c13b0
                          try clear c13b1
                          try clear c16
                          try clear c16b0
                          try clear c16b1
                          try clear c20
                          try clear c21
                          try clear p2
                          try clear p6
                          obtain ⟨x17_4, x19_4, x72_4, rfl, rfl, rfl, HA, HK4, HB⟩ := hrel
                          cases gk with
                          | zero => exact absurd HA.out (by simp [codec_skip.l0])
                          | succ k4 =>
                            have H := HA.out
                            clear HA
                            simp only [codec_skip.l0] at H
                            by_cases c22 : x72_4 < t122
                            · rw [if_pos c22] at H
                              have c22b0 : decide (x72_4 < t122) = true := decide_eq_true c22
                              clear c22
                              replace H := Option.bind_eq_some_iff.mp H
                              obtain ⟨⟨t125, t126, t127⟩, A230, H⟩ := H
                              replace H : (if t127 = true then (codec_skip.l0 k4 a0 a2 t125 (mx x19_4 t126) t122 (wrap64 (x72_4 + 1))) else (some (0, 0, false))) = some (r1, r2, r3) := H
                              have A23 := Aside0.mk A230
                              clear A230
                              by_cases c24 : t127 = true
                              · subst c24
                                have H1 : (codec_skip.l0 k4 a0 a2 t125 (mx x19_4 t126) t122 (wrap64 (x72_4 + 1))) = some (r1, r2, r3) := by rw [if_pos rfl] at H; exact H
                                clear H
                                have H := H1
                                clear H1
                                obtain ⟨ji25, hji25⟩ : ∃ j_ : Int, (mx x19_4 t126) = j_ := ⟨_, rfl⟩
                                replace H : (codec_skip.l0 k4 a0 a2 t125 ji25 t122 (wrap64 (x72_4 + 1))) = some (r1, r2, r3) := by first | (rw [hji25] at H; exact H) | (simp only [hji25] at H ⊢; exact H)
                                (try rw [hji25] at A23)
                                have hji25_ : (if x19_4 < t126 then t126 else x19_4) = ji25 := hji25
                                have H' := Aside0.mk H
                                clear H
                                go_wp2_with (first | ((with_reducible refine gate_callee (f := 36) rfl ?_); refine goesL_ (some 79) rfl rfl Tryd.func36 (by kernel_rfl) rfl #[.string a0, .int .i64 x17_4, .int .i64 (wrap64 (a2 - 1))] rfl (by (try simp only [List.map_toArray, List.map_cons, List.map_nil]); first | done | rfl | (simp only [List.length_drop, List.length_take]; rfl)) ?_; (with_reducible refine (ih k4 (by have := HJ4.out; have := HJ7.out; have := HJ17.out; have := HK4.out; omega) a0 x17_4 (wrap64 (a2 - 1)) t125 t126 true _ ?side99  A23.out).mono ?_); (case side99 => first | exact HG.out | exact Glob.below HG.out (by repeat (first | (with_reducible first | exact HB.out | apply below_alloc | apply pw_below_drewN | apply below_drew1) | exact HB.out))); rintro e w26 ⟨rfl, hb⟩; refine ⟨_, rfl, ?_⟩; have n0_ := Aside0.mk (below_step (by repeat (first | (with_reducible first | exact HB.out | apply below_alloc | apply pw_below_drewN | apply below_drew1) | exact HB.out)) hb); clear HB; have HB := n0_; clear n0_; (try clear hb); (try clear hb2); (try clear hk); (try clear hi)))
                                go_roundg k4
                                case measure => have := HJ4.out; have := HJ7.out; have := HJ17.out; have := HK4.out; omega
                                case rel => exact ⟨(t125), (ji25), (wrap64 (x72_4 + 1)), (by first | rfl | (simp; done) | (simp [*]; done)), (by first | rfl | (simp; done) | (simp only [← hji25] <;> (first | rfl | simp)) | (simp [*]; done)), (by first | rfl | (simp; done) | (simp [*]; done)), H', ⟨by have := HJ4.out; have := HJ7.out; have := HJ17.out; have := HK4.out; omega⟩, ⟨by repeat (first | (with_reducible first | exact HB.out | apply below_alloc | apply pw_below_drewN | apply below_drew1) | exact HB.out)⟩⟩
                              · replace c24 := Bool.eq_false_iff.mpr c24
                                subst c24
                                have H1 : (some (0, 0, false)) = some (r1, r2, r3) := by rw [if_neg (show ¬ (false = true) by decide)] at H; exact H
                                clear H
                                have H := H1
                                clear H1
                                simp only [Option.some.injEq, Prod.mk.injEq] at H
                                obtain ⟨rfl, rfl, rfl⟩ := H
                                go_wp2_with (first | ((with_reducible refine gate_callee (f := 36) rfl ?_); refine goesL_ (some 79) rfl rfl Tryd.func36 (by kernel_rfl) rfl #[.string a0, .int .i64 x17_4, .int .i64 (wrap64 (a2 - 1))] rfl (by (try simp only [List.map_toArray, List.map_cons, List.map_nil]); first | done | rfl | (simp only [List.length_drop, List.length_take]; rfl)) ?_; (with_reducible refine (ih k4 (by have := HJ4.out; have := HJ7.out; have := HJ17.out; have := HK4.out; omega) a0 x17_4 (wrap64 (a2 - 1)) t125 t126 false _ ?side99  A23.out).mono ?_); (case side99 => first | exact HG.out | exact Glob.below HG.out (by repeat (first | (with_reducible first | exact HB.out | apply below_alloc | apply pw_below_drewN | apply below_drew1) | exact HB.out))); rintro e w27 ⟨rfl, hb⟩; refine ⟨_, rfl, ?_⟩; have n0_ := Aside0.mk (below_step (by repeat (first | (with_reducible first | exact HB.out | apply below_alloc | apply pw_below_drewN | apply below_drew1) | exact HB.out)) hb); clear HB; have HB := n0_; clear n0_; (try clear hb); (try clear hb2); (try clear hk); (try clear hi)))
                                go_ret3
                                exact ⟨by first | rfl | (simp [errW_none, errW_some] <;> rfl) | (simp [*, errW_none, errW_some] <;> rfl), by repeat (first | (with_reducible first | exact HB.out | apply below_alloc | apply pw_below_drewN | apply below_drew1) | exact HB.out)⟩
                            · rw [if_neg c22] at H
                              have c22b0 : decide (x72_4 < t122) = false := decide_eq_false c22
                              clear c22
                              simp only [Option.some.injEq, Prod.mk.injEq] at H
                              obtain ⟨rfl, rfl, rfl⟩ := H
                              go_wp2
                              go_ret3
                              exact ⟨by first | rfl | (simp [errW_none, errW_some] <;> rfl) | (simp [*, errW_none, errW_some] <;> rfl), by repeat (first | (with_reducible first | exact HB.out | apply below_alloc | apply pw_below_drewN | apply below_drew1) | exact HB.out)⟩
                · rw [if_neg c16] at H
                  have c16b0 : (t115 == 6) = false := beq_eq_false_iff_ne.mpr c16
                  have c16b1 : (t115 != 6) = true := bne_iff_ne.mpr c16
                  simp only [Option.some.injEq, Prod.mk.injEq] at H
                  obtain ⟨rfl, rfl, rfl⟩ := H
                  go_wp2
                  go_ret3
                  exact ⟨by first | rfl | (simp [errW_none, errW_some] <;> rfl) | (simp [*, errW_none, errW_some] <;> rfl), by repeat (first | (with_reducible first | exact HB.out | apply below_alloc | apply pw_below_drewN | apply below_drew1) | exact HB.out)⟩
end Go.Proofs.YtndeikikeeeigaaDoor.Q
end
section
namespace Go.Proofs.YtndeikikeeeigaaDoor.Q
open Go.RowKit Go.Proofs.YtndeikikeeeigaaDoorW.PrintWords Go.Proofs.YtndeikikeeeigaaDoorW.PrintLast Go.Proofs.YtndeikikeeeigaaDoorW.PrintMore
attribute [local go_sem] max2_int min2_int max_two min_two max_three min_three max_four min_four
set_option linter.unusedVariables false
set_option linter.unusedSimpArgs false
def codec_Depth.f (k : Nat) (a0 : ByteArray) : Option (Int) := (codec_skip.f k a0 0 16).bind fun bt128 => (if bt128.2.2 = true then (if bt128.1 = (a0.size : Int) then (some bt128.2.1) else (some (-1))) else (some (-1)))
theorem codec_Depth.mono : ∀ a0 k, LeO (codec_Depth.f k a0) (codec_Depth.f (k + 1) a0) := by
  intro a0 k
  unfold codec_Depth.f
  repeat' first
      | (with_reducible exact codec_skip.mono _ _ _ _)
      | (with_reducible exact LeO.refl _)
      | (with_reducible exact LeO.none _)
      | (with_reducible refine LeO.ite ?_ ?_)
      | (with_reducible refine LeO.bind ?_ (fun _ => ?_))
      | exact codec_skip.mono _ _ _ _
      | exact LeO.none _
      | refine LeO.ite ?_ ?_
      | refine LeO.bind ?_ (fun _ => ?_)
set_option maxHeartbeats 8000000 in
set_option maxRecDepth 100000 in
theorem codec_Depth.calls (k : Nat) (a0 : ByteArray) (r : Int) (w : World) (hG : Glob w) (h : codec_Depth.f k a0 = some r) :
    Calls Tryd.prog 11 #[.string a0] w fun e w' => e = .returned (.int .i64 r) ∧ Below w.heap.size w w' := by
  have HG := Aside0.mk hG
  clear hG
  have HB := Aside0.mk (Below.refl w.heap.size w)
  have H : ((codec_skip.f k a0 0 16).bind fun bt128 => (if bt128.2.2 = true then (if bt128.1 = (a0.size : Int) then (some bt128.2.1) else (some (-1))) else (some (-1)))) = some r := h
  clear h
  replace H := Option.bind_eq_some_iff.mp H
  obtain ⟨⟨t128, t129, t130⟩, A20, H⟩ := H
  replace H : (if t130 = true then (if t128 = (a0.size : Int) then (some t129) else (some (-1))) else (some (-1))) = some r := H
  have A2 := Aside0.mk A20
  clear A20
  by_cases c3 : t130 = true
  · subst c3
    have H1 : (if t128 = (a0.size : Int) then (some t129) else (some (-1))) = some r := by rw [if_pos rfl] at H; exact H
    clear H
    have H := H1
    clear H1
    by_cases c4 : t128 = (a0.size : Int)
    · rw [if_pos c4] at H
      have c4b0 : (t128 == (a0.size : Int)) = true := beq_iff_eq.mpr c4
      have c4b1 : (t128 != (a0.size : Int)) = false := bne_eq_false_iff_eq.mpr c4
      clear c4
      obtain rfl := Option.some.inj H
      go_enter Tryd.func11, Tryd.ntmps11
      go_wp2_with (first | ((with_reducible refine gate_callee (f := 36) rfl ?_); refine goesL_ (some 8) rfl rfl Tryd.func36 (by kernel_rfl) rfl #[.string a0, .int .i64 0, .int .i64 16] rfl (by (try simp only [List.map_toArray, List.map_cons, List.map_nil]); first | done | rfl | (simp only [List.length_drop, List.length_take]; rfl)) ?_; (with_reducible refine (codec_skip.calls k a0 0 16 t128 t129 true _ ?side99  A2.out).mono ?_); (case side99 => first | exact HG.out | exact Glob.below HG.out (by repeat (first | (with_reducible first | exact HB.out | apply below_alloc | apply pw_below_drewN | apply below_drew1) | exact HB.out))); rintro e w5 ⟨rfl, hb⟩; refine ⟨_, rfl, ?_⟩; have n0_ := Aside0.mk (below_step (by repeat (first | (with_reducible first | exact HB.out | apply below_alloc | apply pw_below_drewN | apply below_drew1) | exact HB.out)) hb); clear HB; have HB := n0_; clear n0_; (try clear hb); (try clear hb2); (try clear hk); (try clear hi)))
      go_ret
      exact ⟨by first | rfl | (simp [errW_none, errW_some] <;> rfl) | (simp [*, errW_none, errW_some] <;> rfl), by repeat (first | (with_reducible first | exact HB.out | apply below_alloc | apply pw_below_drewN | apply below_drew1) | exact HB.out)⟩
    · rw [if_neg c4] at H
      have c4b0 : (t128 == (a0.size : Int)) = false := beq_eq_false_iff_ne.mpr c4
      have c4b1 : (t128 != (a0.size : Int)) = true := bne_iff_ne.mpr c4
      obtain rfl := Option.some.inj H
      go_enter Tryd.func11, Tryd.ntmps11
      go_wp2_with (first | ((with_reducible refine gate_callee (f := 36) rfl ?_); refine goesL_ (some 8) rfl rfl Tryd.func36 (by kernel_rfl) rfl #[.string a0, .int .i64 0, .int .i64 16] rfl (by (try simp only [List.map_toArray, List.map_cons, List.map_nil]); first | done | rfl | (simp only [List.length_drop, List.length_take]; rfl)) ?_; (with_reducible refine (codec_skip.calls k a0 0 16 t128 t129 true _ ?side99  A2.out).mono ?_); (case side99 => first | exact HG.out | exact Glob.below HG.out (by repeat (first | (with_reducible first | exact HB.out | apply below_alloc | apply pw_below_drewN | apply below_drew1) | exact HB.out))); rintro e w6 ⟨rfl, hb⟩; refine ⟨_, rfl, ?_⟩; have n0_ := Aside0.mk (below_step (by repeat (first | (with_reducible first | exact HB.out | apply below_alloc | apply pw_below_drewN | apply below_drew1) | exact HB.out)) hb); clear HB; have HB := n0_; clear n0_; (try clear hb); (try clear hb2); (try clear hk); (try clear hi)))
      go_ret
      exact ⟨by first | rfl | (simp [errW_none, errW_some] <;> rfl) | (simp [*, errW_none, errW_some] <;> rfl), by repeat (first | (with_reducible first | exact HB.out | apply below_alloc | apply pw_below_drewN | apply below_drew1) | exact HB.out)⟩
  · replace c3 := Bool.eq_false_iff.mpr c3
    subst c3
    have H1 : (some (-1)) = some r := by rw [if_neg (show ¬ (false = true) by decide)] at H; exact H
    clear H
    have H := H1
    clear H1
    obtain rfl := Option.some.inj H
    go_enter Tryd.func11, Tryd.ntmps11
    go_wp2_with (first | ((with_reducible refine gate_callee (f := 36) rfl ?_); refine goesL_ (some 8) rfl rfl Tryd.func36 (by kernel_rfl) rfl #[.string a0, .int .i64 0, .int .i64 16] rfl (by (try simp only [List.map_toArray, List.map_cons, List.map_nil]); first | done | rfl | (simp only [List.length_drop, List.length_take]; rfl)) ?_; (with_reducible refine (codec_skip.calls k a0 0 16 t128 t129 false _ ?side99  A2.out).mono ?_); (case side99 => first | exact HG.out | exact Glob.below HG.out (by repeat (first | (with_reducible first | exact HB.out | apply below_alloc | apply pw_below_drewN | apply below_drew1) | exact HB.out))); rintro e w7 ⟨rfl, hb⟩; refine ⟨_, rfl, ?_⟩; have n0_ := Aside0.mk (below_step (by repeat (first | (with_reducible first | exact HB.out | apply below_alloc | apply pw_below_drewN | apply below_drew1) | exact HB.out)) hb); clear HB; have HB := n0_; clear n0_; (try clear hb); (try clear hb2); (try clear hk); (try clear hi)))
    go_ret
    exact ⟨by first | rfl | (simp [errW_none, errW_some] <;> rfl) | (simp [*, errW_none, errW_some] <;> rfl), by repeat (first | (with_reducible first | exact HB.out | apply below_alloc | apply pw_below_drewN | apply below_drew1) | exact HB.out)⟩
end Go.Proofs.YtndeikikeeeigaaDoor.Q
end
section
namespace Go.Proofs.YtndeikikeeeigaaDoor.Q
open Go.RowKit Go.Proofs.YtndeikikeeeigaaDoorW.PrintWords Go.Proofs.YtndeikikeeeigaaDoorW.PrintLast Go.Proofs.YtndeikikeeeigaaDoorW.PrintMore
attribute [local go_sem] max2_int min2_int max_two min_two max_three min_three max_four min_four
set_option linter.unusedVariables false
set_option linter.unusedSimpArgs false
def codec_Valid.f (k : Nat) (a0 : ByteArray) : Option (Bool) := (codec_Depth.f k a0).bind fun t131 => (some (decide (t131 ≥ 0)))
theorem codec_Valid.mono : ∀ a0 k, LeO (codec_Valid.f k a0) (codec_Valid.f (k + 1) a0) := by
  intro a0 k
  unfold codec_Valid.f
  repeat' first
      | (with_reducible exact codec_Depth.mono _ _)
      | (with_reducible exact LeO.refl _)
      | (with_reducible exact LeO.none _)
      | (with_reducible refine LeO.ite ?_ ?_)
      | (with_reducible refine LeO.bind ?_ (fun _ => ?_))
      | exact codec_Depth.mono _ _
      | exact LeO.none _
      | refine LeO.ite ?_ ?_
      | refine LeO.bind ?_ (fun _ => ?_)
set_option maxHeartbeats 8000000 in
set_option maxRecDepth 100000 in
theorem codec_Valid.calls (k : Nat) (a0 : ByteArray) (r : Bool) (w : World) (hG : Glob w) (h : codec_Valid.f k a0 = some r) :
    Calls Tryd.prog 10 #[.string a0] w fun e w' => e = .returned (.bool r) ∧ Below w.heap.size w w' := by
  have HG := Aside0.mk hG
  clear hG
  have HB := Aside0.mk (Below.refl w.heap.size w)
  have H : ((codec_Depth.f k a0).bind fun t131 => (some (decide (t131 ≥ 0)))) = some r := h
  clear h
  replace H := Option.bind_eq_some_iff.mp H
  obtain ⟨t131, A20, H⟩ := H
  replace H : (some (decide (t131 ≥ 0))) = some r := H
  have A2 := Aside0.mk A20
  clear A20
  obtain rfl := Option.some.inj H
  go_enter Tryd.func10, Tryd.ntmps10
  go_wp2_with (first | ((with_reducible refine gate_callee (f := 11) rfl ?_); refine goesL_ (some 4) rfl rfl Tryd.func11 (by kernel_rfl) rfl #[.string a0] rfl (by (try simp only [List.map_toArray, List.map_cons, List.map_nil]); first | done | rfl | (simp only [List.length_drop, List.length_take]; rfl)) ?_; (with_reducible refine (codec_Depth.calls k a0 t131 _ ?side99  A2.out).mono ?_); (case side99 => first | exact HG.out | exact Glob.below HG.out (by repeat (first | (with_reducible first | exact HB.out | apply below_alloc | apply pw_below_drewN | apply below_drew1) | exact HB.out))); rintro e w3 ⟨rfl, hb⟩; refine ⟨_, rfl, ?_⟩; have n0_ := Aside0.mk (below_step (by repeat (first | (with_reducible first | exact HB.out | apply below_alloc | apply pw_below_drewN | apply below_drew1) | exact HB.out)) hb); clear HB; have HB := n0_; clear n0_; (try clear hb); (try clear hb2); (try clear hk); (try clear hi)))
  go_ret
  exact ⟨by first | rfl | (simp [errW_none, errW_some] <;> rfl) | (simp [*, errW_none, errW_some] <;> rfl), by repeat (first | (with_reducible first | exact HB.out | apply below_alloc | apply pw_below_drewN | apply below_drew1) | exact HB.out)⟩
end Go.Proofs.YtndeikikeeeigaaDoor.Q
end
section
namespace Go.Proofs.YtndeikikeeeigaaDoor.Q
open Go.RowKit Go.Proofs.YtndeikikeeeigaaDoorW.PrintWords Go.Proofs.YtndeikikeeeigaaDoorW.PrintLast Go.Proofs.YtndeikikeeeigaaDoorW.PrintMore
set_option linter.unusedVariables false
set_option linter.unusedSimpArgs false
def dig1 (h b : Int) : Int := IntKind.u64.wrap (Go.bits .xor .u64 h (IntKind.u64.wrap b) * 1099511628211)
def dig (s : ByteArray) : Nat → Int
  | 0 => 14695981039346656037
  | n + 1 => dig1 (dig s n) (bt s n)
def hexAt (h : Int) (i : Nat) : Int := bt (⟨#[48, 49, 50, 51, 52, 53, 54, 55, 56, 57, 97, 98, 99, 100, 101, 102]⟩ : ByteArray) (Go.bits .and .u64 (h / 2 ^ (60 - 4 * i)) 15)
theorem and15u (x : Int) : 0 ≤ Go.bits .and .u64 x 15 ∧ Go.bits .and .u64 x 15 < 16 := by
  show 0 ≤ IntKind.u64.wrap (((BitVec.ofInt 64 x) &&& (BitVec.ofInt 64 15)).toNat : Int) ∧ IntKind.u64.wrap (((BitVec.ofInt 64 x) &&& (BitVec.ofInt 64 15)).toNat : Int) < 16
  have h : ((BitVec.ofInt 64 x) &&& (BitVec.ofInt 64 15)).toNat ≤ 15 := by
    rw [BitVec.toNat_and]
    exact Nat.and_le_right
  show 0 ≤ ((((BitVec.ofInt 64 x) &&& (BitVec.ofInt 64 15)).toNat : Int) % 18446744073709551616) ∧ ((((BitVec.ofInt 64 x) &&& (BitVec.ofInt 64 15)).toNat : Int) % 18446744073709551616) < 16
  omega
def digits (h : Int) : List Int := (List.range 16).map (hexAt h)
def codec_Digest.f (a0 : ByteArray) : Option (ByteArray) := if a0.size ≤ 9223372036854775807 then some (strOfNums (digits (dig a0 a0.size))) else none
set_option maxHeartbeats 2000000 in
set_option maxRecDepth 100000 in
theorem codec_Digest.calls (a0 : ByteArray) (r : ByteArray) (w : World) (hG : Glob w) (h : codec_Digest.f a0 = some r) :
    Calls Tryd.prog 12 #[.string a0] w fun e w' => e = .returned (.string r) ∧ Below w.heap.size w w' := by
  unfold codec_Digest.f at h
  by_cases hs : a0.size ≤ 9223372036854775807
  · rw [if_pos hs] at h
    obtain rfl := Option.some.inj h
    clear h hG
    go_enter Tryd.func12, Tryd.ntmps12
    go_wp2_with fail
    go_loop [3, 4, 9] (fun n _ t => ∃ k : Nat, k ≤ a0.size ∧ t = .int .i64 k ∧ n = .int .u64 (dig a0 k)) (fun _ _ t => a0.size - (intOf t).toNat)
    case atStart => exact ⟨0, Nat.zero_le _, rfl, rfl⟩
    case round =>
      obtain ⟨k, hk, rfl, rfl⟩ := hrel
      by_cases hlt : k < a0.size
      · have hb : (a0[k].toNat : Int) = bt a0 k := bt_at a0 k hlt
        have HD : Hid (dig a0 (k + 1) = dig1 (dig a0 k) (bt a0 k)) := rfl
        generalize dig a0 k = dk at *
        go_wp2
        exact ⟨⟨k + 1, by omega, by go_num, by rw [HD.out]; rfl⟩, by simp [RowKit.intOf]; omega⟩
      · have hke : k = a0.size := by omega
        subst hke
        go_wp2_with fail
        obtain ⟨d, hd⟩ : ∃ d, d = dig a0 a0.size := ⟨_, rfl⟩
        rw [← hd]
        have HD : Hid (d = dig a0 a0.size) := hd
        clear hd
        have hrow0 : (w.alloc (.cells #[.int .u8 0, .int .u8 0, .int .u8 0, .int .u8 0, .int .u8 0, .int .u8 0, .int .u8 0, .int .u8 0, .int .u8 0, .int .u8 0, .int .u8 0, .int .u8 0, .int .u8 0, .int .u8 0, .int .u8 0, .int .u8 0] 62)).rowIs w.heap.size 62 16 (fun j => if j < 0 then .int .u8 (hexAt d j) else .int .u8 0) := by
          refine World.rowIs_alloc w _ 62 _ (fun i hi => ?_)
          rw [if_neg (Nat.not_lt_zero i)]
          have h16 : i < 16 := hi
          obtain rfl | rfl | rfl | rfl | rfl | rfl | rfl | rfl | rfl | rfl | rfl | rfl | rfl | rfl | rfl | rfl : i = 0 ∨ i = 1 ∨ i = 2 ∨ i = 3 ∨ i = 4 ∨ i = 5 ∨ i = 6 ∨ i = 7 ∨ i = 8 ∨ i = 9 ∨ i = 10 ∨ i = 11 ∨ i = 12 ∨ i = 13 ∨ i = 14 ∨ i = 15 := by omega
          all_goals rfl
        go_loopw [6, 20] (fun _ v wr => ∃ k : Nat, k ≤ 16 ∧ v = .int .i64 k ∧ Hid (wr.rowIs w.heap.size 62 16 (fun j => if j < k then .int .u8 (hexAt d j) else .int .u8 0)) ∧ Hid (Below w.heap.size w wr)) (fun _ v _ => 16 - (intOf v).toNat)
        case atStart => exact ⟨0, by omega, rfl, hrow0, below_alloc (Below.refl _ _) _⟩
        case round =>
          obtain ⟨k, hk, rfl, hrw, hbel⟩ := hrel
          by_cases hlt : k < 16
          · have hf1 : wr.frozen? ⟨w.heap.size, k, none⟩ = false := hrw.out.frozen _
            have hc1 : wr.cell? ⟨w.heap.size, k, none⟩ = some (.int .u8 0) := by
              refine (hrw.out.cell hlt).trans ?_
              rw [if_neg (by omega)]
            have hq := and15u (d / 2 ^ (60 - 4 * k))
            have hx : hexAt d k = bt (⟨#[48, 49, 50, 51, 52, 53, 54, 55, 56, 57, 97, 98, 99, 100, 101, 102]⟩ : ByteArray) (Go.bits .and .u64 (d / 2 ^ (60 - 4 * k)) 15) := rfl
            have hz : (Go.bits .and .u64 (d / 2 ^ (60 - 4 * k)) 15).toNat < (⟨#[48, 49, 50, 51, 52, 53, 54, 55, 56, 57, 97, 98, 99, 100, 101, 102]⟩ : ByteArray).size := by
              show (Go.bits .and .u64 (d / 2 ^ (60 - 4 * k)) 15).toNat < 16
              omega
            have hv := bt_at (⟨#[48, 49, 50, 51, 52, 53, 54, 55, 56, 57, 97, 98, 99, 100, 101, 102]⟩ : ByteArray) _ hz
            rw [← hx] at hv
            clear hx
            go_wp2
            refine ⟨⟨k + 1, by omega, by go_num, (hrw.out.set k _).congr (fun j _ => ?_), hbel.out.setCell (Nat.le_refl _) _⟩, by simp [RowKit.intOf]; omega⟩
            by_cases e : j = k
            · subst e
              rw [if_pos rfl, if_pos (by omega), ← hv]
            · rw [if_neg e]
              by_cases e2 : j < k
              · rw [if_pos e2, if_pos (by omega)]
              · rw [if_neg e2, if_neg (by omega)]
          · have hke : k = 16 := by omega
            subst hke
            have hreads : ReadsInt wr .u8 (some ⟨w.heap.size, 0, none⟩) 16 (digits d) := by
              refine ⟨by simp [digits], by decide, fun _ => ⟨_, rfl, fun j hj => ?_⟩⟩
              have e := hrw.out.cell hj
              simp only [if_pos hj] at e
              rw [show (digits d).getD j 0 = hexAt d j by simp [digits, List.getD_eq_getElem?_getD, List.getElem?_map, List.getElem?_range hj]]
              rw [← e]
              congr 1
              simp [Addr.add]
              exact fun h => h.symm
            have hconv : (convert 28 9 (.slice (some ⟨w.heap.size, 0, none⟩) 16 16)).run Tryd.prog wr = .ok (.string (strOfNums (digits d))) wr :=
              string_of_reads Tryd.underlying28 Tryd.underlying5 Tryd.underlying9 hreads
            go_wp2
            go_ret
            rw [← HD.out]
            exact ⟨rfl, hbel.out⟩
  · rw [if_neg hs] at h
    cases h
end Go.Proofs.YtndeikikeeeigaaDoor.Q
end
section
namespace Go.Proofs.YtndeikikeeeigaaDoor.Q
open Go.RowKit Go.Proofs.YtndeikikeeeigaaDoorW.PrintWords Go.Proofs.YtndeikikeeeigaaDoorW.PrintLast Go.Proofs.YtndeikikeeeigaaDoorW.PrintMore
attribute [local go_sem] max2_int min2_int max_two min_two max_three min_three max_four min_four
set_option linter.unusedVariables false
set_option linter.unusedSimpArgs false
def plenumlaw02_awake.f (k : Nat)  : Option (Bool) := if ([] : List Int).length < 140737488355328 then ((some (([] : List Int) ++ [64] : List Int)).bind fun y143 => ((codec_width.f k 2).bind fun t146 => ((codec_number.f k 16 2 t146).bind fun t147 => (if y143.length + t147.length < 140737488355328 then ((some (y143 ++ t147 : List Int)).bind fun y150 => (if y150.length < 140737488355328 then ((some (y150 ++ [0] : List Int)).bind fun y153 => (if y153.length < 140737488355328 then ((some (y153 ++ [48] : List Int)).bind fun y156 => ((codec_width.f k 1).bind fun t159 => ((codec_number.f k 16 1 t159).bind fun t160 => (if y156.length + t160.length < 140737488355328 then ((some (y156 ++ t160 : List Int)).bind fun y163 => (if y163.length + 1 < 140737488355328 then (if (strOfNums (y163 ++ bytesOf (⟨#[97]⟩ : ByteArray))).toList = ([64, 17, 2, 0, 48, 17, 1, 97] : List UInt8) then ((codec_Digest.f (⟨#[97]⟩ : ByteArray)).bind fun t169 => (if t169.toList = ([97, 102, 54, 51, 100, 99, 52, 99, 56, 54, 48, 49, 101, 99, 56, 99] : List UInt8) then ((codec_Valid.f k (⟨#[34, 0, 128]⟩ : ByteArray)).bind fun t170 => (if t170 = true then ((codec_Valid.f k (⟨#[18, 0, 1]⟩ : ByteArray)).bind fun t171 => (some (!t171))) else (none))) else (none))) else (none)) else (none))) else (none))))) else (none))) else (none))) else (none))))) else (none)
theorem plenumlaw02_awake.mono : ∀ k, LeO (plenumlaw02_awake.f k ) (plenumlaw02_awake.f (k + 1) ) := by
  intro  k
  unfold plenumlaw02_awake.f
  repeat' first
      | (with_reducible exact codec_Valid.mono _ _)
      | (with_reducible exact codec_number.mono _ _ _ _)
      | (with_reducible exact codec_width.mono _ _)
      | (with_reducible exact LeO.refl _)
      | (with_reducible exact LeO.none _)
      | (with_reducible refine LeO.ite ?_ ?_)
      | (with_reducible refine LeO.bind ?_ (fun _ => ?_))
      | exact codec_Valid.mono _ _
      | exact codec_number.mono _ _ _ _
      | exact codec_width.mono _ _
      | exact LeO.none _
      | refine LeO.ite ?_ ?_
      | refine LeO.bind ?_ (fun _ => ?_)
def plenumlaw02_awake.T43000 : Bool × List (List Nat × List Nat) := (true, [([], []), ([], []), ([1], [1]), ([2], [2]), ([3], [3]), ([], []), ([], []), ([6], [6]), ([5, 7, 7], [5, 7]), ([4, 8, 8], [4, 8]), ([0, 0, 1, 2, 3, 4, 5, 6, 7, 8, 9], [0]), ([10, 0, 1, 2, 3, 4, 5, 6, 7, 8, 9], [10]), ([11, 9, 9, 0, 1, 2, 3, 4, 5, 6, 7, 8, 9], [9, 11])])
def plenumlaw02_awake.B43000 : List Nat := [0, 0, 2, 6, 14, 0, 0, 64, 224, 510, 1023, 2047, 4095]
theorem plenumlaw02_awake.tab43000 : rtab .any (opsOf Tryd.f43 0) = plenumlaw02_awake.T43000 := by kernel_rfl
theorem plenumlaw02_awake.bits43000 : waitsOk plenumlaw02_awake.T43000.2 plenumlaw02_awake.B43000 = true := by kernel_rfl
set_option maxHeartbeats 8000000 in
set_option maxRecDepth 100000 in
theorem plenumlaw02_awake.calls (k : Nat)  (r : Bool) (w : World) (hG : Glob w) (h : plenumlaw02_awake.f k  = some r) :
    Calls Tryd.prog 9 #[] w fun e w' => e = .returned (.bool r) ∧ Below w.heap.size w w' := by
  have hmf_ : ∀ (fn : Fn) (first cap : Array Value) (w : World), (Instr.makeFunc fn first cap).run Tryd.prog w = .ok (.func fn first cap) w := fun _ _ _ _ => rfl
  have hu38 := Tryd.underlying38
  have HG := Aside0.mk hG
  clear hG
  have HB := Aside0.mk (Below.refl w.heap.size w)
  have H : (if ([] : List Int).length < 140737488355328 then ((some (([] : List Int) ++ [64] : List Int)).bind fun y143 => ((codec_width.f k 2).bind fun t146 => ((codec_number.f k 16 2 t146).bind fun t147 => (if y143.length + t147.length < 140737488355328 then ((some (y143 ++ t147 : List Int)).bind fun y150 => (if y150.length < 140737488355328 then ((some (y150 ++ [0] : List Int)).bind fun y153 => (if y153.length < 140737488355328 then ((some (y153 ++ [48] : List Int)).bind fun y156 => ((codec_width.f k 1).bind fun t159 => ((codec_number.f k 16 1 t159).bind fun t160 => (if y156.length + t160.length < 140737488355328 then ((some (y156 ++ t160 : List Int)).bind fun y163 => (if y163.length + 1 < 140737488355328 then (if (strOfNums (y163 ++ bytesOf (⟨#[97]⟩ : ByteArray))).toList = ([64, 17, 2, 0, 48, 17, 1, 97] : List UInt8) then ((codec_Digest.f (⟨#[97]⟩ : ByteArray)).bind fun t169 => (if t169.toList = ([97, 102, 54, 51, 100, 99, 52, 99, 56, 54, 48, 49, 101, 99, 56, 99] : List UInt8) then ((codec_Valid.f k (⟨#[34, 0, 128]⟩ : ByteArray)).bind fun t170 => (if t170 = true then ((codec_Valid.f k (⟨#[18, 0, 1]⟩ : ByteArray)).bind fun t171 => (some (!t171))) else (none))) else (none))) else (none)) else (none))) else (none))))) else (none))) else (none))) else (none))))) else (none)) = some r := h
  clear h
  by_cases c1 : ([] : List Int).length < 140737488355328
  · rw [if_pos c1] at H
    have LMc1 := Aside0.mk c1
    clear c1
    obtain ⟨y143, hy143⟩ : ∃ y_ : List Int, y_ = (([] : List Int) ++ [64]) := ⟨_, rfl⟩
    replace H : ((codec_width.f k 2).bind fun t146 => ((codec_number.f k 16 2 t146).bind fun t147 => (if y143.length + t147.length < 140737488355328 then ((some (y143 ++ t147 : List Int)).bind fun y150 => (if y150.length < 140737488355328 then ((some (y150 ++ [0] : List Int)).bind fun y153 => (if y153.length < 140737488355328 then ((some (y153 ++ [48] : List Int)).bind fun y156 => ((codec_width.f k 1).bind fun t159 => ((codec_number.f k 16 1 t159).bind fun t160 => (if y156.length + t160.length < 140737488355328 then ((some (y156 ++ t160 : List Int)).bind fun y163 => (if y163.length + 1 < 140737488355328 then (if (strOfNums (y163 ++ bytesOf (⟨#[97]⟩ : ByteArray))).toList = ([64, 17, 2, 0, 48, 17, 1, 97] : List UInt8) then ((codec_Digest.f (⟨#[97]⟩ : ByteArray)).bind fun t169 => (if t169.toList = ([97, 102, 54, 51, 100, 99, 52, 99, 56, 54, 48, 49, 101, 99, 56, 99] : List UInt8) then ((codec_Valid.f k (⟨#[34, 0, 128]⟩ : ByteArray)).bind fun t170 => (if t170 = true then ((codec_Valid.f k (⟨#[18, 0, 1]⟩ : ByteArray)).bind fun t171 => (some (!t171))) else (none))) else (none))) else (none)) else (none))) else (none))))) else (none))) else (none))) else (none)))) = some r := by first | (rw [hy143]; with_reducible exact H) | (have H2_ := (Option.bind_some _ _).symm.trans H; rw [hy143]; with_reducible exact H2_) | (have H2_ := (Option.bind_some _ _).symm.trans H; with_reducible exact H2_) | with_reducible exact H | (rw [hy143]; exact H) | exact H
    have Ny143 := Aside0.mk hy143
    clear hy143
    replace H := Option.bind_eq_some_iff.mp H
    obtain ⟨t146, A20, H⟩ := H
    replace H : ((codec_number.f k 16 2 t146).bind fun t147 => (if y143.length + t147.length < 140737488355328 then ((some (y143 ++ t147 : List Int)).bind fun y150 => (if y150.length < 140737488355328 then ((some (y150 ++ [0] : List Int)).bind fun y153 => (if y153.length < 140737488355328 then ((some (y153 ++ [48] : List Int)).bind fun y156 => ((codec_width.f k 1).bind fun t159 => ((codec_number.f k 16 1 t159).bind fun t160 => (if y156.length + t160.length < 140737488355328 then ((some (y156 ++ t160 : List Int)).bind fun y163 => (if y163.length + 1 < 140737488355328 then (if (strOfNums (y163 ++ bytesOf (⟨#[97]⟩ : ByteArray))).toList = ([64, 17, 2, 0, 48, 17, 1, 97] : List UInt8) then ((codec_Digest.f (⟨#[97]⟩ : ByteArray)).bind fun t169 => (if t169.toList = ([97, 102, 54, 51, 100, 99, 52, 99, 56, 54, 48, 49, 101, 99, 56, 99] : List UInt8) then ((codec_Valid.f k (⟨#[34, 0, 128]⟩ : ByteArray)).bind fun t170 => (if t170 = true then ((codec_Valid.f k (⟨#[18, 0, 1]⟩ : ByteArray)).bind fun t171 => (some (!t171))) else (none))) else (none))) else (none)) else (none))) else (none))))) else (none))) else (none))) else (none))) = some r := H
    have A2 := Aside0.mk A20
    clear A20
    replace H := Option.bind_eq_some_iff.mp H
    obtain ⟨t147, A30, H⟩ := H
    replace H : (if y143.length + t147.length < 140737488355328 then ((some (y143 ++ t147 : List Int)).bind fun y150 => (if y150.length < 140737488355328 then ((some (y150 ++ [0] : List Int)).bind fun y153 => (if y153.length < 140737488355328 then ((some (y153 ++ [48] : List Int)).bind fun y156 => ((codec_width.f k 1).bind fun t159 => ((codec_number.f k 16 1 t159).bind fun t160 => (if y156.length + t160.length < 140737488355328 then ((some (y156 ++ t160 : List Int)).bind fun y163 => (if y163.length + 1 < 140737488355328 then (if (strOfNums (y163 ++ bytesOf (⟨#[97]⟩ : ByteArray))).toList = ([64, 17, 2, 0, 48, 17, 1, 97] : List UInt8) then ((codec_Digest.f (⟨#[97]⟩ : ByteArray)).bind fun t169 => (if t169.toList = ([97, 102, 54, 51, 100, 99, 52, 99, 56, 54, 48, 49, 101, 99, 56, 99] : List UInt8) then ((codec_Valid.f k (⟨#[34, 0, 128]⟩ : ByteArray)).bind fun t170 => (if t170 = true then ((codec_Valid.f k (⟨#[18, 0, 1]⟩ : ByteArray)).bind fun t171 => (some (!t171))) else (none))) else (none))) else (none)) else (none))) else (none))))) else (none))) else (none))) else (none)) = some r := H
    have A3 := Aside0.mk A30
    clear A30
    by_cases c4 : y143.length + t147.length < 140737488355328
    · rw [if_pos c4] at H
      have LMc4 := Aside0.mk c4
      clear c4
      obtain ⟨y150, hy150⟩ : ∃ y_ : List Int, y_ = (y143 ++ t147) := ⟨_, rfl⟩
      replace H : (if y150.length < 140737488355328 then ((some (y150 ++ [0] : List Int)).bind fun y153 => (if y153.length < 140737488355328 then ((some (y153 ++ [48] : List Int)).bind fun y156 => ((codec_width.f k 1).bind fun t159 => ((codec_number.f k 16 1 t159).bind fun t160 => (if y156.length + t160.length < 140737488355328 then ((some (y156 ++ t160 : List Int)).bind fun y163 => (if y163.length + 1 < 140737488355328 then (if (strOfNums (y163 ++ bytesOf (⟨#[97]⟩ : ByteArray))).toList = ([64, 17, 2, 0, 48, 17, 1, 97] : List UInt8) then ((codec_Digest.f (⟨#[97]⟩ : ByteArray)).bind fun t169 => (if t169.toList = ([97, 102, 54, 51, 100, 99, 52, 99, 56, 54, 48, 49, 101, 99, 56, 99] : List UInt8) then ((codec_Valid.f k (⟨#[34, 0, 128]⟩ : ByteArray)).bind fun t170 => (if t170 = true then ((codec_Valid.f k (⟨#[18, 0, 1]⟩ : ByteArray)).bind fun t171 => (some (!t171))) else (none))) else (none))) else (none)) else (none))) else (none))))) else (none))) else (none)) = some r := by first | (rw [hy150]; with_reducible exact H) | (have H2_ := (Option.bind_some _ _).symm.trans H; rw [hy150]; with_reducible exact H2_) | (have H2_ := (Option.bind_some _ _).symm.trans H; with_reducible exact H2_) | with_reducible exact H | (rw [hy150]; exact H) | exact H
      have Ny150 := Aside0.mk hy150
      clear hy150
      by_cases c5 : y150.length < 140737488355328
      · rw [if_pos c5] at H
        have LMc5 := Aside0.mk c5
        clear c5
        obtain ⟨y153, hy153⟩ : ∃ y_ : List Int, y_ = (y150 ++ [0]) := ⟨_, rfl⟩
        replace H : (if y153.length < 140737488355328 then ((some (y153 ++ [48] : List Int)).bind fun y156 => ((codec_width.f k 1).bind fun t159 => ((codec_number.f k 16 1 t159).bind fun t160 => (if y156.length + t160.length < 140737488355328 then ((some (y156 ++ t160 : List Int)).bind fun y163 => (if y163.length + 1 < 140737488355328 then (if (strOfNums (y163 ++ bytesOf (⟨#[97]⟩ : ByteArray))).toList = ([64, 17, 2, 0, 48, 17, 1, 97] : List UInt8) then ((codec_Digest.f (⟨#[97]⟩ : ByteArray)).bind fun t169 => (if t169.toList = ([97, 102, 54, 51, 100, 99, 52, 99, 56, 54, 48, 49, 101, 99, 56, 99] : List UInt8) then ((codec_Valid.f k (⟨#[34, 0, 128]⟩ : ByteArray)).bind fun t170 => (if t170 = true then ((codec_Valid.f k (⟨#[18, 0, 1]⟩ : ByteArray)).bind fun t171 => (some (!t171))) else (none))) else (none))) else (none)) else (none))) else (none))))) else (none)) = some r := by first | (rw [hy153]; with_reducible exact H) | (have H2_ := (Option.bind_some _ _).symm.trans H; rw [hy153]; with_reducible exact H2_) | (have H2_ := (Option.bind_some _ _).symm.trans H; with_reducible exact H2_) | with_reducible exact H | (rw [hy153]; exact H) | exact H
        have Ny153 := Aside0.mk hy153
        clear hy153
        by_cases c6 : y153.length < 140737488355328
        · rw [if_pos c6] at H
          have LMc6 := Aside0.mk c6
          clear c6
          obtain ⟨y156, hy156⟩ : ∃ y_ : List Int, y_ = (y153 ++ [48]) := ⟨_, rfl⟩
          replace H : ((codec_width.f k 1).bind fun t159 => ((codec_number.f k 16 1 t159).bind fun t160 => (if y156.length + t160.length < 140737488355328 then ((some (y156 ++ t160 : List Int)).bind fun y163 => (if y163.length + 1 < 140737488355328 then (if (strOfNums (y163 ++ bytesOf (⟨#[97]⟩ : ByteArray))).toList = ([64, 17, 2, 0, 48, 17, 1, 97] : List UInt8) then ((codec_Digest.f (⟨#[97]⟩ : ByteArray)).bind fun t169 => (if t169.toList = ([97, 102, 54, 51, 100, 99, 52, 99, 56, 54, 48, 49, 101, 99, 56, 99] : List UInt8) then ((codec_Valid.f k (⟨#[34, 0, 128]⟩ : ByteArray)).bind fun t170 => (if t170 = true then ((codec_Valid.f k (⟨#[18, 0, 1]⟩ : ByteArray)).bind fun t171 => (some (!t171))) else (none))) else (none))) else (none)) else (none))) else (none)))) = some r := by first | (rw [hy156]; with_reducible exact H) | (have H2_ := (Option.bind_some _ _).symm.trans H; rw [hy156]; with_reducible exact H2_) | (have H2_ := (Option.bind_some _ _).symm.trans H; with_reducible exact H2_) | with_reducible exact H | (rw [hy156]; exact H) | exact H
          have Ny156 := Aside0.mk hy156
          clear hy156
          replace H := Option.bind_eq_some_iff.mp H
          obtain ⟨t159, A70, H⟩ := H
          replace H : ((codec_number.f k 16 1 t159).bind fun t160 => (if y156.length + t160.length < 140737488355328 then ((some (y156 ++ t160 : List Int)).bind fun y163 => (if y163.length + 1 < 140737488355328 then (if (strOfNums (y163 ++ bytesOf (⟨#[97]⟩ : ByteArray))).toList = ([64, 17, 2, 0, 48, 17, 1, 97] : List UInt8) then ((codec_Digest.f (⟨#[97]⟩ : ByteArray)).bind fun t169 => (if t169.toList = ([97, 102, 54, 51, 100, 99, 52, 99, 56, 54, 48, 49, 101, 99, 56, 99] : List UInt8) then ((codec_Valid.f k (⟨#[34, 0, 128]⟩ : ByteArray)).bind fun t170 => (if t170 = true then ((codec_Valid.f k (⟨#[18, 0, 1]⟩ : ByteArray)).bind fun t171 => (some (!t171))) else (none))) else (none))) else (none)) else (none))) else (none))) = some r := H
          have A7 := Aside0.mk A70
          clear A70
          replace H := Option.bind_eq_some_iff.mp H
          obtain ⟨t160, A80, H⟩ := H
          replace H : (if y156.length + t160.length < 140737488355328 then ((some (y156 ++ t160 : List Int)).bind fun y163 => (if y163.length + 1 < 140737488355328 then (if (strOfNums (y163 ++ bytesOf (⟨#[97]⟩ : ByteArray))).toList = ([64, 17, 2, 0, 48, 17, 1, 97] : List UInt8) then ((codec_Digest.f (⟨#[97]⟩ : ByteArray)).bind fun t169 => (if t169.toList = ([97, 102, 54, 51, 100, 99, 52, 99, 56, 54, 48, 49, 101, 99, 56, 99] : List UInt8) then ((codec_Valid.f k (⟨#[34, 0, 128]⟩ : ByteArray)).bind fun t170 => (if t170 = true then ((codec_Valid.f k (⟨#[18, 0, 1]⟩ : ByteArray)).bind fun t171 => (some (!t171))) else (none))) else (none))) else (none)) else (none))) else (none)) = some r := H
          have A8 := Aside0.mk A80
          clear A80
          by_cases c9 : y156.length + t160.length < 140737488355328
          · rw [if_pos c9] at H
            have LMc9 := Aside0.mk c9
            clear c9
            obtain ⟨y163, hy163⟩ : ∃ y_ : List Int, y_ = (y156 ++ t160) := ⟨_, rfl⟩
            replace H : (if y163.length + 1 < 140737488355328 then (if (strOfNums (y163 ++ bytesOf (⟨#[97]⟩ : ByteArray))).toList = ([64, 17, 2, 0, 48, 17, 1, 97] : List UInt8) then ((codec_Digest.f (⟨#[97]⟩ : ByteArray)).bind fun t169 => (if t169.toList = ([97, 102, 54, 51, 100, 99, 52, 99, 56, 54, 48, 49, 101, 99, 56, 99] : List UInt8) then ((codec_Valid.f k (⟨#[34, 0, 128]⟩ : ByteArray)).bind fun t170 => (if t170 = true then ((codec_Valid.f k (⟨#[18, 0, 1]⟩ : ByteArray)).bind fun t171 => (some (!t171))) else (none))) else (none))) else (none)) else (none)) = some r := by first | (rw [hy163]; with_reducible exact H) | (have H2_ := (Option.bind_some _ _).symm.trans H; rw [hy163]; with_reducible exact H2_) | (have H2_ := (Option.bind_some _ _).symm.trans H; with_reducible exact H2_) | with_reducible exact H | (rw [hy163]; exact H) | exact H
            have Ny163 := Aside0.mk hy163
            clear hy163
            by_cases c10 : y163.length + 1 < 140737488355328
            · rw [if_pos c10] at H
              have LMc10 := Aside0.mk c10
              clear c10
              obtain ⟨y166, hy166⟩ : ∃ y_ : List Int, y_ = (y163 ++ bytesOf (⟨#[97]⟩ : ByteArray)) := ⟨_, rfl⟩
              replace H : (if (strOfNums y166).toList = ([64, 17, 2, 0, 48, 17, 1, 97] : List UInt8) then ((codec_Digest.f (⟨#[97]⟩ : ByteArray)).bind fun t169 => (if t169.toList = ([97, 102, 54, 51, 100, 99, 52, 99, 56, 54, 48, 49, 101, 99, 56, 99] : List UInt8) then ((codec_Valid.f k (⟨#[34, 0, 128]⟩ : ByteArray)).bind fun t170 => (if t170 = true then ((codec_Valid.f k (⟨#[18, 0, 1]⟩ : ByteArray)).bind fun t171 => (some (!t171))) else (none))) else (none))) else (none)) = some r := by first | (rw [hy166]; with_reducible exact H) | (have H2_ := (Option.bind_some _ _).symm.trans H; rw [hy166]; with_reducible exact H2_) | (have H2_ := (Option.bind_some _ _).symm.trans H; with_reducible exact H2_) | with_reducible exact H | (rw [hy166]; exact H) | exact H
              have Ny166 := Aside0.mk hy166
              clear hy166
              by_cases c11 : (strOfNums y166).toList = ([64, 17, 2, 0, 48, 17, 1, 97] : List UInt8)
              · rw [if_pos c11] at H
                have c11b0 : ((strOfNums y166).toList == ([64, 17, 2, 0, 48, 17, 1, 97] : List UInt8)) = true := beq_iff_eq.mpr c11
                have c11b1 : ((strOfNums y166).toList != ([64, 17, 2, 0, 48, 17, 1, 97] : List UInt8)) = false := bne_eq_false_iff_eq.mpr c11
                clear c11
                replace H := Option.bind_eq_some_iff.mp H
                obtain ⟨t169, A120, H⟩ := H
                replace H : (if t169.toList = ([97, 102, 54, 51, 100, 99, 52, 99, 56, 54, 48, 49, 101, 99, 56, 99] : List UInt8) then ((codec_Valid.f k (⟨#[34, 0, 128]⟩ : ByteArray)).bind fun t170 => (if t170 = true then ((codec_Valid.f k (⟨#[18, 0, 1]⟩ : ByteArray)).bind fun t171 => (some (!t171))) else (none))) else (none)) = some r := H
                have A12 := Aside0.mk A120
                clear A120
                by_cases c13 : t169.toList = ([97, 102, 54, 51, 100, 99, 52, 99, 56, 54, 48, 49, 101, 99, 56, 99] : List UInt8)
                · rw [if_pos c13] at H
                  have c13b0 : (t169.toList == ([97, 102, 54, 51, 100, 99, 52, 99, 56, 54, 48, 49, 101, 99, 56, 99] : List UInt8)) = true := beq_iff_eq.mpr c13
                  have c13b1 : (t169.toList != ([97, 102, 54, 51, 100, 99, 52, 99, 56, 54, 48, 49, 101, 99, 56, 99] : List UInt8)) = false := bne_eq_false_iff_eq.mpr c13
                  clear c13
                  replace H := Option.bind_eq_some_iff.mp H
                  obtain ⟨t170, A140, H⟩ := H
                  replace H : (if t170 = true then ((codec_Valid.f k (⟨#[18, 0, 1]⟩ : ByteArray)).bind fun t171 => (some (!t171))) else (none)) = some r := H
                  have A14 := Aside0.mk A140
                  clear A140
                  by_cases c15 : t170 = true
                  · subst c15
                    have H1 : ((codec_Valid.f k (⟨#[18, 0, 1]⟩ : ByteArray)).bind fun t171 => (some (!t171))) = some r := by rw [if_pos rfl] at H; exact H
                    clear H
                    have H := H1
                    clear H1
                    replace H := Option.bind_eq_some_iff.mp H
                    obtain ⟨t171, A160, H⟩ := H
                    replace H : (some (!t171)) = some r := H
                    have A16 := Aside0.mk A160
                    clear A160
                    obtain rfl := Option.some.inj H
                    go_enter Tryd.func9, Tryd.ntmps9
                    try go_wp2_with (first | (go_at_call 33; go_in) | (go_at_call 43; go_in) | (go_at_call 34; go_in) | (go_at_call 35; go_in) | (go_at_call 19; go_in) | ((try simp only [Exit.inBlock, Exit.then]); refine bodyPost_end (results_none rfl _ _ _) rfl ?_; simp only []; go_at_K) | ((with_reducible refine gate_dst (N := 5) rfl ?_); refine box_event ?hg (N := 5) ?hd (cs := #[.slice none 0 0]) (t := 38) ?hr ?_; (case hd => rfl); (case hg => rfl); (case hr => first | (go_simp; done) | (go_simp; rfl)); intro gb142 hg w17 hbox hb; have n0_ := Aside0.mk (below_step (by repeat (first | (with_reducible first | exact HB.out | apply below_alloc | apply pw_below_drewN | apply below_drew1) | exact HB.out)) hb); have n1_ := Aside0.mk (hbox); have n2_ := Aside0.mk ((by rw [hg]; exact (below_size (by repeat (first | (with_reducible first | exact HB.out | apply below_alloc | apply pw_below_drewN | apply below_drew1) | exact HB.out))) : w.heap.size ≤ gb142)); have n3_ := Aside0.mk ((by rw [hg]; exact (below_size (by repeat (first | (with_reducible first | exact HB.out | apply below_alloc | apply pw_below_drewN | apply below_drew1) | exact HB.out))) : w.heap.size ≤ gb142)); clear HB; have HB := n0_; have BK142 := n1_; have GW142 := n2_; have GE142 := n3_; clear n0_ n1_ n2_ n3_; clear hb hbox hg; have hcz18_0 : w17.cell? ⟨gb142, 0, none⟩ = some (.slice none 0 0) := (blk_cell BK142.out 0).trans rfl; have hfz18_0 := blk_frozen BK142.out 0) | ((with_reducible refine gate_builtin (b := .append) (xs := #[.tmp 15, .tmp 16]) rfl ?_); at_builtin; refine Kd.R_append (Kd.int .u8) (w0 := w) w.heap.size rfl (.tmp 15) (.tmp 16) 28 5 (.int .u8 0) 1 rfl Tryd.underlying28 info5 rfl (by decide) (by omega) (.slice none 0 0) ([] : List Int) 64 [.int .u8 64] (fun _ => True) (fun _ => False) rfl rfl ?aP (fun _ hk => hk.elim) ?aF ?aO ?aB ?aS ?aL ?_; (case aP => exact rfl); (case aB => exact (by repeat (first | (with_reducible first | exact HB.out | apply below_alloc | apply pw_below_drewN | apply below_drew1 | refine below_set ?_ GE142.out) | exact HB.out))); (case aF => exact (fun _ _ => trivial)); (case aO => exact ((Kd.R_nil _ _ _ _ (fun _ => True)))); (case aS => exact (below_size (by repeat (first | (with_reducible first | exact HB.out | apply below_alloc | apply pw_below_drewN | apply below_drew1 | refine below_set ?_ GE142.out) | exact HB.out)))); (case aL => have := LMc1.out; first | omega | (simp only [ByteArray.size, List.size_toArray, List.length_cons, List.length_nil] at this ⊢; omega)); intro v144 w19 ho hb hg hat; rw [← Ny143.out] at ho; have n0_ := Aside0.mk (blk_grown (g := gb142) (o := .cells #[.slice none 0 0] 38 (0, 0)) (by (with_reducible repeat (first | refine blk_drewN ?_ _ | refine blk_drew ?_ | refine blk_alloc ?_ _)); exact BK142.out) hg (by simp [Value.ownBlock])); have n1_ := Aside0.mk (hb); have n2_ := Aside0.mk (ho); clear BK142; clear HB; have BK142 := n0_; have HB := n1_; have HO145 := n2_; clear n0_ n1_ n2_; clear ho hb hg hat; obtain ⟨Ao20, co20, eo20⟩ := Kd.R_slice HO145.out; subst eo20; have hcz21_0 : w19.cell? ⟨gb142, 0, none⟩ = some (.slice none 0 0) := (blk_cell BK142.out 0).trans rfl; have hfz21_0 := blk_frozen BK142.out 0))
                    have n0_ : Aside0 (Kd.R (Kd.int .u8) 5 (w19.setCell ⟨gb142, 0, none⟩ (.slice Ao20 y143.length co20)) w.heap.size (fun _ => True) (.slice Ao20 y143.length co20) y143) := ⟨by (with_reducible repeat (first | apply Kd.R_alloc | apply Kd.R_drewN | apply Kd.R_drew)); exact Kd.R_mono (Kd.R_far (p := ⟨gb142, 0, none⟩) (Kd.R_types HO145.out BK142.out (by decide)) (fun _ hk => hk.2) (.slice Ao20 y143.length co20)) (fun _ hk => trivial)⟩
                    have n1_ : Aside0 ((w19.setCell ⟨gb142, 0, none⟩ (.slice Ao20 y143.length co20)).heap[gb142]? = some (.cells #[.slice Ao20 y143.length co20] 38 (0, 0))) := ⟨by (with_reducible repeat (first | refine blk_drewN ?_ _ | refine blk_drew ?_ | refine blk_alloc ?_ _)); refine blk_put (cs := #[.slice none 0 0]) ?_ 0 _ rfl; (with_reducible repeat (first | refine blk_drewN ?_ _ | refine blk_drew ?_ | refine blk_alloc ?_ _)); exact BK142.out⟩
                    have n2_ : Aside0 (Below w.heap.size w (w19.setCell ⟨gb142, 0, none⟩ (.slice Ao20 y143.length co20))) := ⟨by repeat (first | (with_reducible first | exact HB.out | apply below_alloc | apply pw_below_drewN | apply below_drew1 | refine below_set ?_ GE142.out) | exact HB.out)⟩
                    (try clear HO145)
                    (try clear BK142)
                    (try clear HB)
                    generalize (w19.setCell ⟨gb142, 0, none⟩ (.slice Ao20 y143.length co20)) = w22 at n0_ n1_ n2_ ⊢
                    have HO145 := n0_
                    have BK142 := n1_
                    have HB := n2_
                    clear n0_ n1_ n2_
                    have n0_ := Aside0.mk (Kd.R_drew HO145.out)
                    have n1_ := Aside0.mk (blk_drew BK142.out)
                    have n2_ := Aside0.mk (below_drew1 HB.out)
                    clear HO145
                    clear BK142
                    clear HB
                    have HO145 := n0_
                    have BK142 := n1_
                    have HB := n2_
                    clear n0_ n1_ n2_
                    refine start_ (n := 13) (S := fun w' => w'.cell? ⟨gb142, 0, none⟩ = some (.slice Ao20 y143.length co20)) (ds := [12]) #[false, false, false, false, false, false, false, false, false, false, false, false, false] (by kernel_rfl) rfl rfl ((blk_cell BK142.out 0).trans rfl) (fun hHeld => ?_); refine with_tabW plenumlaw02_awake.tab43000 plenumlaw02_awake.bits43000 (fun HT_ HW_ => ?_)
                    generalize w22.drew = w23 at HO145 BK142 HB hHeld ⊢
                    refine pure_ (i := 0) (N := some 4) (v := ?_) (a' := ?_) #[true, false, false, false, false, false, false, false, false, false, false, false, false] rfl rfl (any_of HT_.out (by kernel_rfl)) (fun _ _ _ h => h) (Or.inl ⟨by rfl, ?_⟩) ?_ ?_
                    rotate_left
                    · intro w'
                      go_simp
                      with_reducible rfl
                    rotate_left
                    · simp only [Act.put, List.setIfInBounds_toArray, List.set_cons_zero, List.set_cons_succ, i64_w, i32_w]
                      rfl
                    refine pure_ (i := 1) (N := some 5) (v := ?_) (a' := ?_) #[true, true, false, false, false, false, false, false, false, false, false, false, false] rfl rfl (any_of HT_.out (by kernel_rfl)) (fun _ _ _ h => h) (Or.inl ⟨by rfl, ?_⟩) ?_ ?_
                    rotate_left
                    · intro w'
                      go_simp
                      with_reducible rfl
                    rotate_left
                    · simp only [Act.put, List.setIfInBounds_toArray, List.set_cons_zero, List.set_cons_succ, i64_w, i32_w]
                      rfl
                    refine pure_ (i := 2) (N := some 6) (v := ?_) (a' := ?_) #[true, true, true, false, false, false, false, false, false, false, false, false, false] rfl rfl (any_of HT_.out (by kernel_rfl)) (fun _ _ _ h => h) (Or.inl ⟨by rfl, ?_⟩) ?_ ?_
                    rotate_left
                    · intro w'
                      go_simp
                      with_reducible rfl
                    rotate_left
                    · simp only [Act.put, List.setIfInBounds_toArray, List.set_cons_zero, List.set_cons_succ, i64_w, i32_w]
                      rfl
                    refine pure_ (i := 3) (N := some 7) (v := ?_) (a' := ?_) #[true, true, true, true, false, false, false, false, false, false, false, false, false] rfl rfl (any_of HT_.out (by kernel_rfl)) (fun _ _ _ h => h) (Or.inl ⟨by rfl, ?_⟩) ?_ ?_
                    rotate_left
                    · intro w'
                      go_simp
                      with_reducible rfl
                    rotate_left
                    · simp only [Act.put, List.setIfInBounds_toArray, List.set_cons_zero, List.set_cons_succ, i64_w, i32_w]
                      rfl
                    refine pure_ (i := 5) (N := some 9) (v := ?_) (a' := ?_) #[true, true, true, true, false, true, false, false, false, false, false, false, false] rfl rfl (any_of HT_.out (by kernel_rfl)) (fun _ _ _ h => h) (Or.inl ⟨by rfl, ?_⟩) ?_ ?_
                    rotate_left
                    · intro w'
                      go_simp
                      with_reducible rfl
                    rotate_left
                    · simp only [Act.put, List.setIfInBounds_toArray, List.set_cons_zero, List.set_cons_succ, i64_w, i32_w]
                      rfl
                    refine pure_ (i := 6) (N := some 10) (v := ?_) (a' := ?_) #[true, true, true, true, false, true, true, false, false, false, false, false, false] rfl rfl (any_of HT_.out (by kernel_rfl)) (fun _ _ _ h => h) (Or.inl ⟨by rfl, ?_⟩) ?_ ?_
                    rotate_left
                    · intro w'
                      go_simp
                      with_reducible rfl
                    rotate_left
                    · simp only [Act.put, List.setIfInBounds_toArray, List.set_cons_zero, List.set_cons_succ, i64_w, i32_w]
                      rfl
                    refine take_ (i := 4) (N := some 8) (v := ?_) (a' := ?_) #[true, true, true, true, true, true, true, false, false, false, false, false, false] rfl rfl (take_ofW HT_.out HW_.out (by kernel_rfl)) (fun _ _ _ h => h) (Or.inl ⟨by rfl, ?_⟩) hHeld ?_ ?_
                    rotate_left
                    · intro w' s0
                      go_simp
                      with_reducible rfl
                    rotate_left
                    · simp only [Act.put, List.setIfInBounds_toArray, List.set_cons_zero, List.set_cons_succ, i64_w, i32_w]
                      rfl
                    refine one_ (i := 7) (N := some 11) #[true, true, true, true, true, true, true, true, false, false, false, false, false] rfl rfl (one_of HT_.out (by kernel_rfl)) (by decide) (fun K hK => ?_)
                    refine goes_ Tryd.func63 (by kernel_rfl) rfl #[.int .u64 2] (by rfl) rfl rfl (by (try simp only [List.map_toArray, List.map_cons, List.map_nil]); first | done | rfl | (simp only [List.length_drop, List.length_take]; rfl)) ?_
                    with_reducible refine (codec_width.calls k 2 t146 _ ?side99  A2.out).mono ?_
                    (case side99 => first | exact HG.out | exact Glob.below HG.out (by repeat (first | (with_reducible first | exact HB.out | apply below_alloc | apply pw_below_drewN | apply below_drew1 | refine below_set ?_ GE142.out) | exact HB.out)))
                    rintro e w24 ⟨rfl, hb⟩
                    refine ⟨_, rfl, ?_⟩
                    have n0_ := Aside0.mk (Kd.R_below (by (with_reducible repeat (first | apply Kd.R_alloc | apply Kd.R_drewN | apply Kd.R_drew)); exact HO145.out) hb)
                    have n1_ := Aside0.mk (blk_below (g := gb142) (o := .cells #[.slice Ao20 y143.length co20] 38 (0, 0)) (by (with_reducible repeat (first | refine blk_drewN ?_ _ | refine blk_drew ?_ | refine blk_alloc ?_ _)); exact BK142.out) hb)
                    have n2_ := Aside0.mk (below_step (by repeat (first | (with_reducible first | exact HB.out | apply below_alloc | apply pw_below_drewN | apply below_drew1 | refine below_set ?_ GE142.out) | exact HB.out)) hb)
                    clear HO145
                    clear BK142
                    clear HB
                    have HO145 := n0_
                    have BK142 := n1_
                    have HB := n2_
                    clear n0_ n1_ n2_
                    (try clear hb)
                    (try clear hb2)
                    (try clear hk)
                    (try clear hi)
                    refine hK.out _ _ ((blk_cell BK142.out 0).trans rfl) (fun hHeld => ?_)
                    clear hK K
                    refine norm_ (a' := ?_) ?_ ?_
                    rotate_left
                    · show Act.put _ (some 11) _ = _
                      simp only [Act.put, List.setIfInBounds_toArray, List.set_cons_zero, List.set_cons_succ, i64_w, i32_w]
                      rfl
                    refine one_ (i := 8) (N := some 12) #[true, true, true, true, true, true, true, true, true, false, false, false, false] rfl rfl (one_of HT_.out (by kernel_rfl)) (by decide) (fun K hK => ?_)
                    refine goes_ Tryd.func62 (by kernel_rfl) rfl #[.int .u8 16, .int .u64 2, .int .i64 t146] (by rfl) rfl rfl (by (try simp only [List.map_toArray, List.map_cons, List.map_nil]); first | done | rfl | (simp only [List.length_drop, List.length_take]; rfl)) ?_
                    with_reducible refine (codec_number.calls k 16 2 t146 t147 _ ?side99  A3.out).mono ?_
                    (case side99 => first | exact HG.out | exact Glob.below HG.out (by repeat (first | (with_reducible first | exact HB.out | apply below_alloc | apply pw_below_drewN | apply below_drew1 | refine below_set ?_ GE142.out) | exact HB.out)))
                    rintro e w25 ⟨v148, rfl, ho0, hb⟩
                    refine ⟨_, rfl, ?_⟩
                    have n0_ := Aside0.mk (Kd.R_elder' (by (with_reducible repeat (first | apply Kd.R_alloc | apply Kd.R_drewN | apply Kd.R_drew)); exact HO145.out) (Kd.R_base ho0) hb)
                    have n1_ := Aside0.mk (Kd.R_lower (Kd.R_new' ho0 (Kd.R_lt (by (with_reducible repeat (first | apply Kd.R_alloc | apply Kd.R_drewN | apply Kd.R_drew)); exact HO145.out))) (below_size (by repeat (first | (with_reducible first | exact HB.out | apply below_alloc | apply pw_below_drewN | apply below_drew1 | refine below_set ?_ GE142.out) | exact HB.out))))
                    have n2_ := Aside0.mk (blk_below (g := gb142) (o := .cells #[.slice Ao20 y143.length co20] 38 (0, 0)) (by (with_reducible repeat (first | refine blk_drewN ?_ _ | refine blk_drew ?_ | refine blk_alloc ?_ _)); exact BK142.out) hb)
                    have n3_ := Aside0.mk (below_step (by repeat (first | (with_reducible first | exact HB.out | apply below_alloc | apply pw_below_drewN | apply below_drew1 | refine below_set ?_ GE142.out) | exact HB.out)) hb)
                    clear HO145
                    clear BK142
                    clear HB
                    have HO145 := n0_
                    have HO149 := n1_
                    have BK142 := n2_
                    have HB := n3_
                    clear n0_ n1_ n2_ n3_
                    (try clear hb)
                    (try clear hb2)
                    (try clear hk)
                    (try clear hi)
                    (try clear ho0)
                    obtain ⟨Ao27, co27, eo27⟩ := Kd.R_slice HO149.out
                    (first | subst eo27 | (injection eo27 with f1_ f2_ f3_; have f4_ := f1_.symm; have f5_ := f3_.symm; clear f1_ f2_ f3_; subst f4_; subst f5_))
                    refine hK.out _ _ ((blk_cell BK142.out 0).trans rfl) (fun hHeld => ?_)
                    clear hK K
                    refine norm_ (a' := ?_) ?_ ?_
                    rotate_left
                    · show Act.put _ (some 12) _ = _
                      simp only [Act.put, List.setIfInBounds_toArray, List.set_cons_zero, List.set_cons_succ, i64_w, i32_w]
                      rfl
                    refine one_ (i := 9) (N := some 13) #[true, true, true, true, true, true, true, true, true, true, false, false, false] rfl rfl (one_of HT_.out (by kernel_rfl)) (by decide) (fun K hK => ?_)
                    refine Kd.R_append_rows_step (Kd.int .u8) (w0 := w) w.heap.size (by rfl) (.tmp 8) (.tmp 12) 28 5 (.int .u8 0) 1 rfl Tryd.underlying28 info5 rfl (by decide) (by omega) (.slice Ao20 y143.length co20) y143 t147 _ _ _ (fun k_ => some k_ ≠ (.slice Ao27 t147.length co27 : Value).ownBlock) (fun _ => False) rfl rfl ?aO ?aR (fun _ _ h => h) (fun _ h => h.elim) ?aF ?aB ?aS ?aL ?_
                    (case aR => repeat (first | exact (Kd.R_reads' HO149.out).2.2 | (with_reducible refine Kd.C_alloc ?_ _) | (with_reducible refine Kd.C_drewN ?_ _) | (with_reducible refine Kd.C_drew ?_)))
                    (case aB => exact (by repeat (first | (with_reducible first | exact HB.out | apply below_alloc | apply pw_below_drewN | apply below_drew1 | refine below_set ?_ GE142.out) | exact HB.out)))
                    (case aF => exact (fun k_ hk => Kd.fresh' (Kd.R_lt (by (with_reducible repeat (first | apply Kd.R_alloc | apply Kd.R_drewN | apply Kd.R_drew)); exact HO149.out)) k_ hk))
                    (case aO => exact (by (with_reducible repeat (first | apply Kd.R_alloc | apply Kd.R_drewN | apply Kd.R_drew)); exact Kd.R_mono HO145.out (fun _ hk => hk.2)))
                    (case aS => exact (below_size (by repeat (first | (with_reducible first | exact HB.out | apply below_alloc | apply pw_below_drewN | apply below_drew1 | refine below_set ?_ GE142.out) | exact HB.out))))
                    (case aL => have := LMc4.out; first | omega | (simp only [ByteArray.size, List.size_toArray, List.length_cons, List.length_nil] at this ⊢; omega))
                    intro v151 w26 ho hb hg hat
                    rw [← Ny150.out] at ho
                    have n0_ := Aside0.mk (blk_grown (g := gb142) (o := .cells #[.slice Ao20 y143.length co20] 38 (0, 0)) (by (with_reducible repeat (first | refine blk_drewN ?_ _ | refine blk_drew ?_ | refine blk_alloc ?_ _)); exact BK142.out) hg (Kd.R_ne HO145.out BK142.out (by decide)))
                    have n1_ := Aside0.mk (Kd.R_after (ok := (fun _ => True)) (by (with_reducible repeat (first | apply Kd.R_alloc | apply Kd.R_drewN | apply Kd.R_drew)); exact HO149.out) hg hat)
                    have n2_ := Aside0.mk (hb)
                    have n3_ := Aside0.mk (ho)
                    clear BK142
                    clear HO149
                    clear HB
                    clear HO145
                    have BK142 := n0_
                    have HO149 := n1_
                    have HB := n2_
                    have HO152 := n3_
                    clear n0_ n1_ n2_ n3_
                    clear ho hb hg hat
                    obtain ⟨Ao28, co28, eo28⟩ := Kd.R_slice HO152.out
                    (first | subst eo28 | (injection eo28 with f1_ f2_ f3_; have f4_ := f1_.symm; have f5_ := f3_.symm; clear f1_ f2_ f3_; subst f4_; subst f5_))
                    refine hK.out _ _ ((blk_cell BK142.out 0).trans rfl) (fun hHeld => ?_)
                    clear hK K
                    refine norm_ (a' := ?_) ?_ ?_
                    rotate_left
                    · show Act.put _ (some 13) _ = _
                      simp only [Act.put, List.setIfInBounds_toArray, List.set_cons_zero, List.set_cons_succ, i64_w, i32_w]
                      rfl
                    refine pure_ (i := 10) (N := some 14) (v := ?_) (a' := ?_) #[true, true, true, true, true, true, true, true, true, true, true, false, false] rfl rfl (any_of HT_.out (by kernel_rfl)) (fun _ _ _ h => h) (Or.inl ⟨by rfl, ?_⟩) ?_ ?_
                    rotate_left
                    · intro w'
                      go_simp
                      with_reducible rfl
                    rotate_left
                    · simp only [Act.put, List.setIfInBounds_toArray, List.set_cons_zero, List.set_cons_succ, i64_w, i32_w]
                      rfl
                    refine pure_ (i := 11) (N := some 15) (v := ?_) (a' := ?_) #[true, true, true, true, true, true, true, true, true, true, true, true, false] rfl rfl (any_of HT_.out (by kernel_rfl)) (fun _ _ _ h => h) (Or.inl ⟨by rfl, ?_⟩) ?_ ?_
                    rotate_left
                    · intro w'
                      go_simp
                      with_reducible rfl
                    rotate_left
                    · simp only [Act.put, List.setIfInBounds_toArray, List.set_cons_zero, List.set_cons_succ, i64_w, i32_w]
                      rfl
                    refine last_ (i := 12) (N := none) #[true, true, true, true, true, true, true, true, true, true, true, true, true] rfl rfl (one_of HT_.out (by kernel_rfl)) (by decide) (fun K hK => ?_)
                    have hs29 : w26.cell? ⟨gb142, 0, none⟩ = some (.slice Ao20 y143.length co20) := (blk_cell BK142.out 0).trans rfl
                    have hfs29 := blk_frozen BK142.out 0
                    refine skip_ (w1 := ?_) (by rfl) rfl ?_ ?_
                    rotate_left
                    · go_simp
                      rfl
                    refine hK.out _ _ ?_
                    clear hK K
                    refine done_ (done_of HT_.out (by kernel_rfl)) ?_
                    have hcz30_0 : w26.cell? ⟨gb142, 0, none⟩ = some (.slice Ao20 y143.length co20) := (blk_cell BK142.out 0).trans rfl
                    have hfz30_0 := blk_frozen BK142.out 0
                    try go_wp2_with (first | (go_at_call 33; go_in) | (go_at_call 43; go_in) | (go_at_call 34; go_in) | (go_at_call 35; go_in) | (go_at_call 19; go_in) | ((try simp only [Exit.inBlock, Exit.then]); refine bodyPost_end (results_none rfl _ _ _) rfl ?_; simp only []; go_at_K) | ((with_reducible refine gate_builtin (b := .append) (xs := #[.tmp 6, .tmp 7]) rfl ?_); at_builtin; refine Kd.R_append (Kd.int .u8) (w0 := w) w.heap.size rfl (.tmp 6) (.tmp 7) 28 5 (.int .u8 0) 1 rfl Tryd.underlying28 info5 rfl (by decide) (by omega) (.slice Ao28 y150.length co28) y150 0 [.int .u8 0] (fun k_ => some k_ ≠ (.slice Ao27 t147.length co27 : Value).ownBlock) (fun _ => False) rfl (by first | (go_simp; done) | (go_simp; rfl)) ?aP (fun _ hk => hk.elim) ?aF ?aO ?aB ?aS ?aL ?_; (case aP => exact rfl); (case aB => exact (by repeat (first | (with_reducible first | exact HB.out | apply below_alloc | apply pw_below_drewN | apply below_drew1 | refine below_set ?_ GE142.out) | exact HB.out))); (case aF => exact (fun k_ hk => Kd.fresh' (Kd.R_lt (by (with_reducible repeat (first | apply Kd.R_alloc | apply Kd.R_drewN | apply Kd.R_drew)); exact (Kd.R_mono (Kd.R_far (p := ⟨gb142, 0, none⟩) (Kd.R_types HO149.out BK142.out (by decide)) (fun _ hk => hk.2) (.slice Ao28 y150.length co28)) (fun _ h_ => h_.1)))) k_ hk)); (case aO => exact (by (with_reducible repeat (first | apply Kd.R_alloc | apply Kd.R_drewN | apply Kd.R_drew)); exact Kd.R_mono (Kd.R_far (p := ⟨gb142, 0, none⟩) (Kd.R_types HO152.out BK142.out (by decide)) (fun _ hk => hk.2) (.slice Ao28 y150.length co28)) (fun _ hk => hk.1))); (case aS => exact (below_size (by repeat (first | (with_reducible first | exact HB.out | apply below_alloc | apply pw_below_drewN | apply below_drew1 | refine below_set ?_ GE142.out) | exact HB.out)))); (case aL => have := LMc5.out; first | omega | (simp only [ByteArray.size, List.size_toArray, List.length_cons, List.length_nil] at this ⊢; omega)); intro v154 w31 ho hb hg hat; rw [← Ny153.out] at ho; have n0_ := Aside0.mk (blk_grown (g := gb142) (o := .cells #[.slice Ao28 y150.length co28] 38 (0, 0)) (by (with_reducible repeat (first | refine blk_drewN ?_ _ | refine blk_drew ?_ | refine blk_alloc ?_ _)); refine blk_put (cs := #[.slice Ao20 y143.length co20]) ?_ 0 _ rfl; (with_reducible repeat (first | refine blk_drewN ?_ _ | refine blk_drew ?_ | refine blk_alloc ?_ _)); exact BK142.out) hg (Kd.R_ne HO152.out BK142.out (by decide))); have n1_ := Aside0.mk (Kd.R_after (ok := (fun _ => True)) (by (with_reducible repeat (first | apply Kd.R_alloc | apply Kd.R_drewN | apply Kd.R_drew)); exact Kd.R_mono (Kd.R_far (p := ⟨gb142, 0, none⟩) (Kd.R_types HO149.out BK142.out (by decide)) (fun _ hk => hk.2) (.slice Ao28 y150.length co28)) (fun _ hk => ⟨trivial, hk.1.2⟩)) hg hat); have n2_ := Aside0.mk (hb); have n3_ := Aside0.mk (ho); clear BK142; clear HO149; clear HB; clear HO152; have BK142 := n0_; have HO149 := n1_; have HB := n2_; have HO155 := n3_; clear n0_ n1_ n2_ n3_; clear ho hb hg hat; obtain ⟨Ao32, co32, eo32⟩ := Kd.R_slice HO155.out; subst eo32; have hcz33_0 : w31.cell? ⟨gb142, 0, none⟩ = some (.slice Ao28 y150.length co28) := (blk_cell BK142.out 0).trans rfl; have hfz33_0 := blk_frozen BK142.out 0) | ((with_reducible refine gate_builtin (b := .append) (xs := #[.tmp 12, .tmp 13]) rfl ?_); at_builtin; refine Kd.R_append (Kd.int .u8) (w0 := w) w.heap.size rfl (.tmp 12) (.tmp 13) 28 5 (.int .u8 0) 1 rfl Tryd.underlying28 info5 rfl (by decide) (by omega) (.slice Ao32 y153.length co32) y153 48 [.int .u8 48] (fun k_ => some k_ ≠ (.slice Ao27 t147.length co27 : Value).ownBlock) (fun _ => False) rfl (by first | (go_simp; done) | (go_simp; rfl)) ?aP (fun _ hk => hk.elim) ?aF ?aO ?aB ?aS ?aL ?_; (case aP => exact rfl); (case aB => exact (by repeat (first | (with_reducible first | exact HB.out | apply below_alloc | apply pw_below_drewN | apply below_drew1 | refine below_set ?_ GE142.out) | exact HB.out))); (case aF => exact (fun k_ hk => Kd.fresh' (Kd.R_lt (by (with_reducible repeat (first | apply Kd.R_alloc | apply Kd.R_drewN | apply Kd.R_drew)); exact (Kd.R_mono (Kd.R_far (p := ⟨gb142, 0, none⟩) (Kd.R_types HO149.out BK142.out (by decide)) (fun _ hk => hk.2) (.slice Ao32 y153.length co32)) (fun _ h_ => h_.1)))) k_ hk)); (case aO => exact (by (with_reducible repeat (first | apply Kd.R_alloc | apply Kd.R_drewN | apply Kd.R_drew)); exact Kd.R_mono (Kd.R_far (p := ⟨gb142, 0, none⟩) (Kd.R_types HO155.out BK142.out (by decide)) (fun _ hk => hk.2) (.slice Ao32 y153.length co32)) (fun _ hk => hk.1))); (case aS => exact (below_size (by repeat (first | (with_reducible first | exact HB.out | apply below_alloc | apply pw_below_drewN | apply below_drew1 | refine below_set ?_ GE142.out) | exact HB.out)))); (case aL => have := LMc6.out; first | omega | (simp only [ByteArray.size, List.size_toArray, List.length_cons, List.length_nil] at this ⊢; omega)); intro v157 w34 ho hb hg hat; rw [← Ny156.out] at ho; have n0_ := Aside0.mk (blk_grown (g := gb142) (o := .cells #[.slice Ao32 y153.length co32] 38 (0, 0)) (by (with_reducible repeat (first | refine blk_drewN ?_ _ | refine blk_drew ?_ | refine blk_alloc ?_ _)); refine blk_put (cs := #[.slice Ao28 y150.length co28]) ?_ 0 _ rfl; (with_reducible repeat (first | refine blk_drewN ?_ _ | refine blk_drew ?_ | refine blk_alloc ?_ _)); exact BK142.out) hg (Kd.R_ne HO155.out BK142.out (by decide))); have n1_ := Aside0.mk (Kd.R_after (ok := (fun _ => True)) (by (with_reducible repeat (first | apply Kd.R_alloc | apply Kd.R_drewN | apply Kd.R_drew)); exact Kd.R_mono (Kd.R_far (p := ⟨gb142, 0, none⟩) (Kd.R_types HO149.out BK142.out (by decide)) (fun _ hk => hk.2) (.slice Ao32 y153.length co32)) (fun _ hk => ⟨trivial, hk.1.2⟩)) hg hat); have n2_ := Aside0.mk (hb); have n3_ := Aside0.mk (ho); clear BK142; clear HO149; clear HB; clear HO155; have BK142 := n0_; have HO149 := n1_; have HB := n2_; have HO158 := n3_; clear n0_ n1_ n2_ n3_; clear ho hb hg hat; obtain ⟨Ao35, co35, eo35⟩ := Kd.R_slice HO158.out; subst eo35; have hcz36_0 : w34.cell? ⟨gb142, 0, none⟩ = some (.slice Ao32 y153.length co32) := (blk_cell BK142.out 0).trans rfl; have hfz36_0 := blk_frozen BK142.out 0))
                    have n0_ : Aside0 (Kd.R (Kd.int .u8) 5 (w34.setCell ⟨gb142, 0, none⟩ (.slice Ao35 y156.length co35)) w.heap.size (fun k_ => some k_ ≠ (.slice Ao35 y156.length co35 : Value).ownBlock) (.slice Ao27 t147.length co27) t147) := ⟨by (with_reducible repeat (first | apply Kd.R_alloc | apply Kd.R_drewN | apply Kd.R_drew)); exact Kd.R_mono (Kd.R_far (p := ⟨gb142, 0, none⟩) (Kd.R_types HO149.out BK142.out (by decide)) (fun _ hk => hk.2) (.slice Ao35 y156.length co35)) (fun _ hk => hk.1.2)⟩
                    have n1_ : Aside0 (Kd.R (Kd.int .u8) 5 (w34.setCell ⟨gb142, 0, none⟩ (.slice Ao35 y156.length co35)) w.heap.size (fun k_ => some k_ ≠ (.slice Ao27 t147.length co27 : Value).ownBlock) (.slice Ao35 y156.length co35) y156) := ⟨by (with_reducible repeat (first | apply Kd.R_alloc | apply Kd.R_drewN | apply Kd.R_drew)); exact Kd.R_mono (Kd.R_far (p := ⟨gb142, 0, none⟩) (Kd.R_types HO158.out BK142.out (by decide)) (fun _ hk => hk.2) (.slice Ao35 y156.length co35)) (fun _ hk => hk.1)⟩
                    have n2_ : Aside0 ((w34.setCell ⟨gb142, 0, none⟩ (.slice Ao35 y156.length co35)).heap[gb142]? = some (.cells #[.slice Ao35 y156.length co35] 38 (0, 0))) := ⟨by (with_reducible repeat (first | refine blk_drewN ?_ _ | refine blk_drew ?_ | refine blk_alloc ?_ _)); refine blk_put (cs := #[.slice Ao32 y153.length co32]) ?_ 0 _ rfl; (with_reducible repeat (first | refine blk_drewN ?_ _ | refine blk_drew ?_ | refine blk_alloc ?_ _)); exact BK142.out⟩
                    have n3_ : Aside0 (Below w.heap.size w (w34.setCell ⟨gb142, 0, none⟩ (.slice Ao35 y156.length co35))) := ⟨by repeat (first | (with_reducible first | exact HB.out | apply below_alloc | apply pw_below_drewN | apply below_drew1 | refine below_set ?_ GE142.out) | exact HB.out)⟩
                    (try clear HO149)
                    (try clear HO158)
                    (try clear BK142)
                    (try clear HB)
                    generalize (w34.setCell ⟨gb142, 0, none⟩ (.slice Ao35 y156.length co35)) = w37 at n0_ n1_ n2_ n3_ ⊢
                    have HO149 := n0_
                    have HO158 := n1_
                    have BK142 := n2_
                    have HB := n3_
                    clear n0_ n1_ n2_ n3_
                    have n0_ := Aside0.mk (Kd.R_drew HO149.out)
                    have n1_ := Aside0.mk (Kd.R_drew HO158.out)
                    have n2_ := Aside0.mk (blk_drew BK142.out)
                    have n3_ := Aside0.mk (below_drew1 HB.out)
                    clear HO149
                    clear HO158
                    clear BK142
                    clear HB
                    have HO149 := n0_
                    have HO158 := n1_
                    have BK142 := n2_
                    have HB := n3_
                    clear n0_ n1_ n2_ n3_
                    refine start_ (n := 13) (S := fun w' => w'.cell? ⟨gb142, 0, none⟩ = some (.slice Ao35 y156.length co35)) (ds := [12]) #[false, false, false, false, false, false, false, false, false, false, false, false, false] (by kernel_rfl) rfl rfl ((blk_cell BK142.out 0).trans rfl) (fun hHeld => ?_); refine with_tabW plenumlaw02_awake.tab43000 plenumlaw02_awake.bits43000 (fun HT_ HW_ => ?_)
                    generalize w37.drew = w38 at HO149 HO158 BK142 HB hHeld ⊢
                    refine pure_ (i := 0) (N := some 4) (v := ?_) (a' := ?_) #[true, false, false, false, false, false, false, false, false, false, false, false, false] rfl rfl (any_of HT_.out (by kernel_rfl)) (fun _ _ _ h => h) (Or.inl ⟨by rfl, ?_⟩) ?_ ?_
                    rotate_left
                    · intro w'
                      go_simp
                      with_reducible rfl
                    rotate_left
                    · simp only [Act.put, List.setIfInBounds_toArray, List.set_cons_zero, List.set_cons_succ, i64_w, i32_w]
                      rfl
                    refine pure_ (i := 1) (N := some 5) (v := ?_) (a' := ?_) #[true, true, false, false, false, false, false, false, false, false, false, false, false] rfl rfl (any_of HT_.out (by kernel_rfl)) (fun _ _ _ h => h) (Or.inl ⟨by rfl, ?_⟩) ?_ ?_
                    rotate_left
                    · intro w'
                      go_simp
                      with_reducible rfl
                    rotate_left
                    · simp only [Act.put, List.setIfInBounds_toArray, List.set_cons_zero, List.set_cons_succ, i64_w, i32_w]
                      rfl
                    refine pure_ (i := 2) (N := some 6) (v := ?_) (a' := ?_) #[true, true, true, false, false, false, false, false, false, false, false, false, false] rfl rfl (any_of HT_.out (by kernel_rfl)) (fun _ _ _ h => h) (Or.inl ⟨by rfl, ?_⟩) ?_ ?_
                    rotate_left
                    · intro w'
                      go_simp
                      with_reducible rfl
                    rotate_left
                    · simp only [Act.put, List.setIfInBounds_toArray, List.set_cons_zero, List.set_cons_succ, i64_w, i32_w]
                      rfl
                    refine pure_ (i := 3) (N := some 7) (v := ?_) (a' := ?_) #[true, true, true, true, false, false, false, false, false, false, false, false, false] rfl rfl (any_of HT_.out (by kernel_rfl)) (fun _ _ _ h => h) (Or.inl ⟨by rfl, ?_⟩) ?_ ?_
                    rotate_left
                    · intro w'
                      go_simp
                      with_reducible rfl
                    rotate_left
                    · simp only [Act.put, List.setIfInBounds_toArray, List.set_cons_zero, List.set_cons_succ, i64_w, i32_w]
                      rfl
                    refine pure_ (i := 5) (N := some 9) (v := ?_) (a' := ?_) #[true, true, true, true, false, true, false, false, false, false, false, false, false] rfl rfl (any_of HT_.out (by kernel_rfl)) (fun _ _ _ h => h) (Or.inl ⟨by rfl, ?_⟩) ?_ ?_
                    rotate_left
                    · intro w'
                      go_simp
                      with_reducible rfl
                    rotate_left
                    · simp only [Act.put, List.setIfInBounds_toArray, List.set_cons_zero, List.set_cons_succ, i64_w, i32_w]
                      rfl
                    refine pure_ (i := 6) (N := some 10) (v := ?_) (a' := ?_) #[true, true, true, true, false, true, true, false, false, false, false, false, false] rfl rfl (any_of HT_.out (by kernel_rfl)) (fun _ _ _ h => h) (Or.inl ⟨by rfl, ?_⟩) ?_ ?_
                    rotate_left
                    · intro w'
                      go_simp
                      with_reducible rfl
                    rotate_left
                    · simp only [Act.put, List.setIfInBounds_toArray, List.set_cons_zero, List.set_cons_succ, i64_w, i32_w]
                      rfl
                    refine take_ (i := 4) (N := some 8) (v := ?_) (a' := ?_) #[true, true, true, true, true, true, true, false, false, false, false, false, false] rfl rfl (take_ofW HT_.out HW_.out (by kernel_rfl)) (fun _ _ _ h => h) (Or.inl ⟨by rfl, ?_⟩) hHeld ?_ ?_
                    rotate_left
                    · intro w' s0
                      go_simp
                      with_reducible rfl
                    rotate_left
                    · simp only [Act.put, List.setIfInBounds_toArray, List.set_cons_zero, List.set_cons_succ, i64_w, i32_w]
                      rfl
                    refine one_ (i := 7) (N := some 11) #[true, true, true, true, true, true, true, true, false, false, false, false, false] rfl rfl (one_of HT_.out (by kernel_rfl)) (by decide) (fun K hK => ?_)
                    refine goes_ Tryd.func63 (by kernel_rfl) rfl #[.int .u64 1] (by rfl) rfl rfl (by (try simp only [List.map_toArray, List.map_cons, List.map_nil]); first | done | rfl | (simp only [List.length_drop, List.length_take]; rfl)) ?_
                    with_reducible refine (codec_width.calls k 1 t159 _ ?side99  A7.out).mono ?_
                    (case side99 => first | exact HG.out | exact Glob.below HG.out (by repeat (first | (with_reducible first | exact HB.out | apply below_alloc | apply pw_below_drewN | apply below_drew1 | refine below_set ?_ GE142.out) | exact HB.out)))
                    rintro e w39 ⟨rfl, hb⟩
                    refine ⟨_, rfl, ?_⟩
                    have n0_ := Aside0.mk (Kd.R_below (by (with_reducible repeat (first | apply Kd.R_alloc | apply Kd.R_drewN | apply Kd.R_drew)); exact HO149.out) hb)
                    have n1_ := Aside0.mk (Kd.R_below (by (with_reducible repeat (first | apply Kd.R_alloc | apply Kd.R_drewN | apply Kd.R_drew)); exact HO158.out) hb)
                    have n2_ := Aside0.mk (blk_below (g := gb142) (o := .cells #[.slice Ao35 y156.length co35] 38 (0, 0)) (by (with_reducible repeat (first | refine blk_drewN ?_ _ | refine blk_drew ?_ | refine blk_alloc ?_ _)); exact BK142.out) hb)
                    have n3_ := Aside0.mk (below_step (by repeat (first | (with_reducible first | exact HB.out | apply below_alloc | apply pw_below_drewN | apply below_drew1 | refine below_set ?_ GE142.out) | exact HB.out)) hb)
                    clear HO149
                    clear HO158
                    clear BK142
                    clear HB
                    have HO149 := n0_
                    have HO158 := n1_
                    have BK142 := n2_
                    have HB := n3_
                    clear n0_ n1_ n2_ n3_
                    (try clear hb)
                    (try clear hb2)
                    (try clear hk)
                    (try clear hi)
                    refine hK.out _ _ ((blk_cell BK142.out 0).trans rfl) (fun hHeld => ?_)
                    clear hK K
                    refine norm_ (a' := ?_) ?_ ?_
                    rotate_left
                    · show Act.put _ (some 11) _ = _
                      simp only [Act.put, List.setIfInBounds_toArray, List.set_cons_zero, List.set_cons_succ, i64_w, i32_w]
                      rfl
                    refine one_ (i := 8) (N := some 12) #[true, true, true, true, true, true, true, true, true, false, false, false, false] rfl rfl (one_of HT_.out (by kernel_rfl)) (by decide) (fun K hK => ?_)
                    refine goes_ Tryd.func62 (by kernel_rfl) rfl #[.int .u8 16, .int .u64 1, .int .i64 t159] (by rfl) rfl rfl (by (try simp only [List.map_toArray, List.map_cons, List.map_nil]); first | done | rfl | (simp only [List.length_drop, List.length_take]; rfl)) ?_
                    with_reducible refine (codec_number.calls k 16 1 t159 t160 _ ?side99  A8.out).mono ?_
                    (case side99 => first | exact HG.out | exact Glob.below HG.out (by repeat (first | (with_reducible first | exact HB.out | apply below_alloc | apply pw_below_drewN | apply below_drew1 | refine below_set ?_ GE142.out) | exact HB.out)))
                    rintro e w40 ⟨v161, rfl, ho0, hb⟩
                    refine ⟨_, rfl, ?_⟩
                    have n0_ := Aside0.mk (Kd.R_elder' (by (with_reducible repeat (first | apply Kd.R_alloc | apply Kd.R_drewN | apply Kd.R_drew)); exact HO149.out) (Kd.R_base ho0) hb)
                    have n1_ := Aside0.mk (Kd.R_elder' (by (with_reducible repeat (first | apply Kd.R_alloc | apply Kd.R_drewN | apply Kd.R_drew)); exact HO158.out) (Kd.R_base ho0) hb)
                    have n2_ := Aside0.mk (Kd.R_lower (Kd.R_new' (Kd.R_new' ho0 (Kd.R_lt (by (with_reducible repeat (first | apply Kd.R_alloc | apply Kd.R_drewN | apply Kd.R_drew)); exact HO149.out))) (Kd.R_lt (by (with_reducible repeat (first | apply Kd.R_alloc | apply Kd.R_drewN | apply Kd.R_drew)); exact HO158.out))) (below_size (by repeat (first | (with_reducible first | exact HB.out | apply below_alloc | apply pw_below_drewN | apply below_drew1 | refine below_set ?_ GE142.out) | exact HB.out))))
                    have n3_ := Aside0.mk (blk_below (g := gb142) (o := .cells #[.slice Ao35 y156.length co35] 38 (0, 0)) (by (with_reducible repeat (first | refine blk_drewN ?_ _ | refine blk_drew ?_ | refine blk_alloc ?_ _)); exact BK142.out) hb)
                    have n4_ := Aside0.mk (below_step (by repeat (first | (with_reducible first | exact HB.out | apply below_alloc | apply pw_below_drewN | apply below_drew1 | refine below_set ?_ GE142.out) | exact HB.out)) hb)
                    clear HO149
                    clear HO158
                    clear BK142
                    clear HB
                    have HO149 := n0_
                    have HO158 := n1_
                    have HO162 := n2_
                    have BK142 := n3_
                    have HB := n4_
                    clear n0_ n1_ n2_ n3_ n4_
                    (try clear hb)
                    (try clear hb2)
                    (try clear hk)
                    (try clear hi)
                    (try clear ho0)
                    obtain ⟨Ao42, co42, eo42⟩ := Kd.R_slice HO162.out
                    (first | subst eo42 | (injection eo42 with f1_ f2_ f3_; have f4_ := f1_.symm; have f5_ := f3_.symm; clear f1_ f2_ f3_; subst f4_; subst f5_))
                    refine hK.out _ _ ((blk_cell BK142.out 0).trans rfl) (fun hHeld => ?_)
                    clear hK K
                    refine norm_ (a' := ?_) ?_ ?_
                    rotate_left
                    · show Act.put _ (some 12) _ = _
                      simp only [Act.put, List.setIfInBounds_toArray, List.set_cons_zero, List.set_cons_succ, i64_w, i32_w]
                      rfl
                    refine one_ (i := 9) (N := some 13) #[true, true, true, true, true, true, true, true, true, true, false, false, false] rfl rfl (one_of HT_.out (by kernel_rfl)) (by decide) (fun K hK => ?_)
                    refine Kd.R_append_rows_step (Kd.int .u8) (w0 := w) w.heap.size (by rfl) (.tmp 8) (.tmp 12) 28 5 (.int .u8 0) 1 rfl Tryd.underlying28 info5 rfl (by decide) (by omega) (.slice Ao35 y156.length co35) y156 t160 _ _ _ (fun k_ => some k_ ≠ (.slice Ao27 t147.length co27 : Value).ownBlock ∧ some k_ ≠ (.slice Ao42 t160.length co42 : Value).ownBlock) (fun _ => False) rfl rfl ?aO ?aR (fun _ _ h => h) (fun _ h => h.elim) ?aF ?aB ?aS ?aL ?_
                    (case aR => repeat (first | exact (Kd.R_reads' HO162.out).2.2 | (with_reducible refine Kd.C_alloc ?_ _) | (with_reducible refine Kd.C_drewN ?_ _) | (with_reducible refine Kd.C_drew ?_)))
                    (case aB => exact (by repeat (first | (with_reducible first | exact HB.out | apply below_alloc | apply pw_below_drewN | apply below_drew1 | refine below_set ?_ GE142.out) | exact HB.out)))
                    (case aF => exact (fun k_ hk => ⟨Kd.fresh' (Kd.R_lt (by (with_reducible repeat (first | apply Kd.R_alloc | apply Kd.R_drewN | apply Kd.R_drew)); exact HO149.out)) k_ hk, Kd.fresh' (Kd.R_lt (by (with_reducible repeat (first | apply Kd.R_alloc | apply Kd.R_drewN | apply Kd.R_drew)); exact HO162.out)) k_ hk⟩))
                    (case aO => exact (by (with_reducible repeat (first | apply Kd.R_alloc | apply Kd.R_drewN | apply Kd.R_drew)); exact HO158.out))
                    (case aS => exact (below_size (by repeat (first | (with_reducible first | exact HB.out | apply below_alloc | apply pw_below_drewN | apply below_drew1 | refine below_set ?_ GE142.out) | exact HB.out))))
                    (case aL => have := LMc9.out; first | omega | (simp only [ByteArray.size, List.size_toArray, List.length_cons, List.length_nil] at this ⊢; omega))
                    intro v164 w41 ho hb hg hat
                    rw [← Ny163.out] at ho
                    have n0_ := Aside0.mk (blk_grown (g := gb142) (o := .cells #[.slice Ao35 y156.length co35] 38 (0, 0)) (by (with_reducible repeat (first | refine blk_drewN ?_ _ | refine blk_drew ?_ | refine blk_alloc ?_ _)); exact BK142.out) hg (Kd.R_ne HO158.out BK142.out (by decide)))
                    have n1_ := Aside0.mk (Kd.R_after (ok := (fun k_ => some k_ ≠ (.slice Ao42 t160.length co42 : Value).ownBlock)) (by (with_reducible repeat (first | apply Kd.R_alloc | apply Kd.R_drewN | apply Kd.R_drew)); exact Kd.R_mono HO149.out (fun _ hk => ⟨hk.2, hk.1⟩)) hg hat)
                    have n2_ := Aside0.mk (Kd.R_after (ok := (fun k_ => some k_ ≠ (.slice Ao27 t147.length co27 : Value).ownBlock)) (by (with_reducible repeat (first | apply Kd.R_alloc | apply Kd.R_drewN | apply Kd.R_drew)); exact Kd.R_mono HO162.out (fun _ hk => ⟨hk.1.2, hk.2⟩)) hg hat)
                    have n3_ := Aside0.mk (hb)
                    have n4_ := Aside0.mk (ho)
                    clear BK142
                    clear HO149
                    clear HO162
                    clear HB
                    clear HO158
                    have BK142 := n0_
                    have HO149 := n1_
                    have HO162 := n2_
                    have HB := n3_
                    have HO165 := n4_
                    clear n0_ n1_ n2_ n3_ n4_
                    clear ho hb hg hat
                    obtain ⟨Ao43, co43, eo43⟩ := Kd.R_slice HO165.out
                    (first | subst eo43 | (injection eo43 with f1_ f2_ f3_; have f4_ := f1_.symm; have f5_ := f3_.symm; clear f1_ f2_ f3_; subst f4_; subst f5_))
                    refine hK.out _ _ ((blk_cell BK142.out 0).trans rfl) (fun hHeld => ?_)
                    clear hK K
                    refine norm_ (a' := ?_) ?_ ?_
                    rotate_left
                    · show Act.put _ (some 13) _ = _
                      simp only [Act.put, List.setIfInBounds_toArray, List.set_cons_zero, List.set_cons_succ, i64_w, i32_w]
                      rfl
                    refine pure_ (i := 10) (N := some 14) (v := ?_) (a' := ?_) #[true, true, true, true, true, true, true, true, true, true, true, false, false] rfl rfl (any_of HT_.out (by kernel_rfl)) (fun _ _ _ h => h) (Or.inl ⟨by rfl, ?_⟩) ?_ ?_
                    rotate_left
                    · intro w'
                      go_simp
                      with_reducible rfl
                    rotate_left
                    · simp only [Act.put, List.setIfInBounds_toArray, List.set_cons_zero, List.set_cons_succ, i64_w, i32_w]
                      rfl
                    refine pure_ (i := 11) (N := some 15) (v := ?_) (a' := ?_) #[true, true, true, true, true, true, true, true, true, true, true, true, false] rfl rfl (any_of HT_.out (by kernel_rfl)) (fun _ _ _ h => h) (Or.inl ⟨by rfl, ?_⟩) ?_ ?_
                    rotate_left
                    · intro w'
                      go_simp
                      with_reducible rfl
                    rotate_left
                    · simp only [Act.put, List.setIfInBounds_toArray, List.set_cons_zero, List.set_cons_succ, i64_w, i32_w]
                      rfl
                    refine last_ (i := 12) (N := none) #[true, true, true, true, true, true, true, true, true, true, true, true, true] rfl rfl (one_of HT_.out (by kernel_rfl)) (by decide) (fun K hK => ?_)
                    have hs44 : w41.cell? ⟨gb142, 0, none⟩ = some (.slice Ao35 y156.length co35) := (blk_cell BK142.out 0).trans rfl
                    have hfs44 := blk_frozen BK142.out 0
                    refine skip_ (w1 := ?_) (by rfl) rfl ?_ ?_
                    rotate_left
                    · go_simp
                      rfl
                    refine hK.out _ _ ?_
                    clear hK K
                    refine done_ (done_of HT_.out (by kernel_rfl)) ?_
                    have hcz45_0 : w41.cell? ⟨gb142, 0, none⟩ = some (.slice Ao35 y156.length co35) := (blk_cell BK142.out 0).trans rfl
                    have hfz45_0 := blk_frozen BK142.out 0
                    try go_wp2_with (first | (go_at_call 33; go_in) | (go_at_call 43; go_in) | (go_at_call 34; go_in) | (go_at_call 35; go_in) | (go_at_call 19; go_in) | ((try simp only [Exit.inBlock, Exit.then]); refine bodyPost_end (results_none rfl _ _ _) rfl ?_; simp only []; go_at_K) | (at_builtin; refine print_append_str (w0 := w) w.heap.size rfl (.tmp 26) _ 28 9 5 rfl Tryd.underlying28 Tryd.underlying9 info5 (.slice Ao43 y163.length co43) y163 (⟨#[97]⟩ : ByteArray) rfl rfl ?aO ?aB ?aS ?aL ?_; (case aB => exact (by repeat (first | (with_reducible first | exact HB.out | apply below_alloc | apply pw_below_drewN | apply below_drew1 | refine below_set ?_ GE142.out) | exact HB.out))); (case aO => exact (Kd.own_of_R (by (with_reducible repeat (first | apply Kd.R_alloc | apply Kd.R_drewN | apply Kd.R_drew)); exact Kd.R_mono (Kd.R_far (p := ⟨gb142, 0, none⟩) (Kd.R_types HO165.out BK142.out (by decide)) (fun _ hk => hk.2) (.slice Ao43 y163.length co43)) (fun _ hk => trivial)))); (case aS => exact (below_size (by repeat (first | (with_reducible first | exact HB.out | apply below_alloc | apply pw_below_drewN | apply below_drew1 | refine below_set ?_ GE142.out) | exact HB.out)))); (case aL => have := LMc10.out; first | omega | (simp only [ByteArray.size, List.size_toArray, List.length_cons, List.length_nil] at this ⊢; omega)); intro v167 w46 ho0 hb hg; have ho := Kd.R_of_own (h1 := fun _ => rfl) (ok := fun _ => True) ho0 (fun _ _ => trivial); clear ho0; have hat := True.intro; rw [← Ny166.out] at ho; change Kd.R (Kd.int .u8) 5 w46 w.heap.size (fun _ => True) v167 y166 at ho; have n0_ := Aside0.mk (blk_grown (g := gb142) (o := .cells #[.slice Ao43 y163.length co43] 38 (0, 0)) (by (with_reducible repeat (first | refine blk_drewN ?_ _ | refine blk_drew ?_ | refine blk_alloc ?_ _)); refine blk_put (cs := #[.slice Ao35 y156.length co35]) ?_ 0 _ rfl; (with_reducible repeat (first | refine blk_drewN ?_ _ | refine blk_drew ?_ | refine blk_alloc ?_ _)); exact BK142.out) hg (Kd.R_ne HO165.out BK142.out (by decide))); have n1_ := Aside0.mk (hb); have n2_ := Aside0.mk (ho); clear BK142; clear HB; clear HO165; have BK142 := n0_; have HB := n1_; have HO168 := n2_; clear n0_ n1_ n2_; clear ho hb hg hat; obtain ⟨Ao47, co47, eo47⟩ := Kd.R_slice HO168.out; subst eo47; have hcz48_0 : w46.cell? ⟨gb142, 0, none⟩ = some (.slice Ao43 y163.length co43) := (blk_cell BK142.out 0).trans rfl; have hfz48_0 := blk_frozen BK142.out 0; have hcv49 := own_string (w := (w46.setCell ⟨gb142, 0, none⟩ (.slice Ao47 y166.length co47))) (P := Tryd.prog) Tryd.underlying28 Tryd.underlying5 Tryd.underlying9 (Kd.own_of_R (by (with_reducible repeat (first | apply Kd.R_alloc | apply Kd.R_drewN | apply Kd.R_drew)); exact (Kd.R_mono (Kd.R_far (p := ⟨gb142, 0, none⟩) (Kd.R_types HO168.out BK142.out (by decide)) (fun _ hk => hk.2) (.slice Ao47 y166.length co47)) (fun _ h_ => h_.1))))) | (go_at_call 12; (with_reducible refine (codec_Digest.calls (⟨#[97]⟩ : ByteArray) t169 _ ?side99  A12.out).mono ?_); (case side99 => first | exact HG.out | exact Glob.below HG.out (by repeat (first | (with_reducible first | exact HB.out | apply below_alloc | apply pw_below_drewN | apply below_drew1 | refine below_set ?_ GE142.out) | exact HB.out))); rintro e w50 ⟨rfl, hb⟩; have n0_ := Aside0.mk (Kd.R_below (by (with_reducible repeat (first | apply Kd.R_alloc | apply Kd.R_drewN | apply Kd.R_drew)); exact (Kd.R_mono (Kd.R_far (p := ⟨gb142, 0, none⟩) (Kd.R_types HO168.out BK142.out (by decide)) (fun _ hk => hk.2) (.slice Ao47 y166.length co47)) (fun _ h_ => h_.1))) hb); have n1_ := Aside0.mk (blk_below (g := gb142) (o := .cells #[.slice Ao47 y166.length co47] 38 (0, 0)) (by (with_reducible repeat (first | refine blk_drewN ?_ _ | refine blk_drew ?_ | refine blk_alloc ?_ _)); refine blk_put (cs := #[.slice Ao43 y163.length co43]) ?_ 0 _ rfl; (with_reducible repeat (first | refine blk_drewN ?_ _ | refine blk_drew ?_ | refine blk_alloc ?_ _)); exact BK142.out) hb); have n2_ := Aside0.mk (below_step (by repeat (first | (with_reducible first | exact HB.out | apply below_alloc | apply pw_below_drewN | apply below_drew1 | refine below_set ?_ GE142.out) | exact HB.out)) hb); clear HO168; clear BK142; clear HB; have HO168 := n0_; have BK142 := n1_; have HB := n2_; clear n0_ n1_ n2_; (try clear hb); (try clear hb2); (try clear hk); (try clear hi)) | (go_at_call 10; (with_reducible refine (codec_Valid.calls k (⟨#[34, 0, 128]⟩ : ByteArray) true _ ?side99  A14.out).mono ?_); (case side99 => first | exact HG.out | exact Glob.below HG.out (by repeat (first | (with_reducible first | exact HB.out | apply below_alloc | apply pw_below_drewN | apply below_drew1 | refine below_set ?_ GE142.out) | exact HB.out))); rintro e w51 ⟨rfl, hb⟩; have n0_ := Aside0.mk (Kd.R_below (by (with_reducible repeat (first | apply Kd.R_alloc | apply Kd.R_drewN | apply Kd.R_drew)); exact HO168.out) hb); have n1_ := Aside0.mk (blk_below (g := gb142) (o := .cells #[.slice Ao47 y166.length co47] 38 (0, 0)) (by (with_reducible repeat (first | refine blk_drewN ?_ _ | refine blk_drew ?_ | refine blk_alloc ?_ _)); exact BK142.out) hb); have n2_ := Aside0.mk (below_step (by repeat (first | (with_reducible first | exact HB.out | apply below_alloc | apply pw_below_drewN | apply below_drew1 | refine below_set ?_ GE142.out) | exact HB.out)) hb); clear HO168; clear BK142; clear HB; have HO168 := n0_; have BK142 := n1_; have HB := n2_; clear n0_ n1_ n2_; (try clear hb); (try clear hb2); (try clear hk); (try clear hi)) | (go_at_call 10; (with_reducible refine (codec_Valid.calls k (⟨#[18, 0, 1]⟩ : ByteArray) t171 _ ?side99  A16.out).mono ?_); (case side99 => first | exact HG.out | exact Glob.below HG.out (by repeat (first | (with_reducible first | exact HB.out | apply below_alloc | apply pw_below_drewN | apply below_drew1 | refine below_set ?_ GE142.out) | exact HB.out))); rintro e w52 ⟨rfl, hb⟩; have n0_ := Aside0.mk (Kd.R_below (by (with_reducible repeat (first | apply Kd.R_alloc | apply Kd.R_drewN | apply Kd.R_drew)); exact HO168.out) hb); have n1_ := Aside0.mk (blk_below (g := gb142) (o := .cells #[.slice Ao47 y166.length co47] 38 (0, 0)) (by (with_reducible repeat (first | refine blk_drewN ?_ _ | refine blk_drew ?_ | refine blk_alloc ?_ _)); exact BK142.out) hb); have n2_ := Aside0.mk (below_step (by repeat (first | (with_reducible first | exact HB.out | apply below_alloc | apply pw_below_drewN | apply below_drew1 | refine below_set ?_ GE142.out) | exact HB.out)) hb); clear HO168; clear BK142; clear HB; have HO168 := n0_; have BK142 := n1_; have HB := n2_; clear n0_ n1_ n2_; (try clear hb); (try clear hb2); (try clear hk); (try clear hi)))
                    go_ret
                    exact ⟨by first | rfl | (simp [errW_none, errW_some] <;> rfl) | (simp [*, errW_none, errW_some] <;> rfl), by repeat (first | (with_reducible first | exact HB.out | apply below_alloc | apply pw_below_drewN | apply below_drew1 | refine below_set ?_ GE142.out) | exact HB.out)⟩
                  · replace c15 := Bool.eq_false_iff.mpr c15
                    subst c15
                    have H1 : (none) = some r := by rw [if_neg (show ¬ (false = true) by decide)] at H; exact H
                    clear H
                    have H := H1
                    clear H1
                    exact absurd H (by simp)
                · rw [if_neg c13] at H
                  exact absurd H (by simp)
              · rw [if_neg c11] at H
                exact absurd H (by simp)
            · rw [if_neg c10] at H
              exact absurd H (by simp)
          · rw [if_neg c9] at H
            exact absurd H (by simp)
        · rw [if_neg c6] at H
          exact absurd H (by simp)
      · rw [if_neg c5] at H
        exact absurd H (by simp)
    · rw [if_neg c4] at H
      exact absurd H (by simp)
  · rw [if_neg c1] at H
    exact absurd H (by simp)
end Go.Proofs.YtndeikikeeeigaaDoor.Q
end
section
namespace Go.Proofs.YtndeikikeeeigaaDoor.Q
open Go.RowKit Go.Proofs.YtndeikikeeeigaaDoorW.PrintWords Go.Proofs.YtndeikikeeeigaaDoorW.PrintLast Go.Proofs.YtndeikikeeeigaaDoorW.PrintMore
attribute [local go_sem] max2_int min2_int max_two min_two max_three min_three max_four min_four
set_option linter.unusedVariables false
set_option linter.unusedSimpArgs false
def plenumlaw02_small.l0 : Nat → List (S43) → Int → Int → Option (Bool)
  | 0, _, _, _ => none
  | k + 1, x0, x3, x4 => if x4 < (x0.length : Int) then (if x4 < 70 then (if 0 ≤ x4 then (plenumlaw02_small.l0 k x0 (wrap64 (x3 + (mn (((rd_T43 x0 x4).f4).size : Int) 100000))) (wrap64 (x4 + 1))) else (none)) else (if (x0.length : Int) ≤ 60 then (some (decide (x3 ≤ 70000))) else (some false))) else (if (x0.length : Int) ≤ 60 then (some (decide (x3 ≤ 70000))) else (some false))
def plenumlaw02_small.f (k : Nat) (l0 : List (S43)) : Option (Bool) := plenumlaw02_small.l0 k l0 0 0
set_option maxHeartbeats 8000000 in
set_option maxRecDepth 100000 in
theorem plenumlaw02_small.calls (k : Nat) (A0 : Option Addr) (c0 : Nat) (l0 : List (S43)) (r : Bool) (w : World) (hG : Glob w) (hr0 : Kd.C k43 w A0 l0.length l0) (hc0 : l0.length ≤ c0) (h : plenumlaw02_small.f k l0 = some r) :
    Calls Tryd.prog 17 #[.slice A0 l0.length c0] w fun e w' => e = .returned (.bool r) ∧ Below w.heap.size w w' := by
  have HG := Aside0.mk hG
  clear hG
  have HR0 := Aside0.mk hr0
  have HC0 := Aside0.mk hc0
  clear hr0 hc0
  have HB := Aside0.mk (Below.refl w.heap.size w)
  have H : (plenumlaw02_small.l0 k l0 0 0) = some r := h
  clear h
  have H' := Aside0.mk H
  clear H
  go_enter Tryd.func17, Tryd.ntmps17
  go_wp2
  go_loopg [3, 4] k (fun kq v3 v4 w' => ∃ (x3_1 : Int) (x4_1 : Int), v3 = .int .i64 x3_1 ∧ v4 = .int .i64 x4_1 ∧ Aside0 (plenumlaw02_small.l0 kq l0 x3_1 x4_1 = some r) ∧ Aside0 (kq ≤ k) ∧ Aside0 (Below w.heap.size w w'))
  case atStart => exact ⟨(0), (0), (by first | rfl | (simp; done) | (simp [*]; done)), (by first | rfl | (simp; done) | (simp [*]; done)), H', ⟨Nat.le_refl _⟩, ⟨by repeat (first | (with_reducible first | exact HB.out | apply below_alloc | apply pw_below_drewN | apply below_drew1) | exact HB.out)⟩⟩
  case round =>
    clear H'
    try clear c1
    obtain ⟨x3_1, x4_1, rfl, rfl, HA, HK1, HB⟩ := hrel
    cases gk with
    | zero => exact absurd HA.out (by simp [plenumlaw02_small.l0])
    | succ k1 =>
      have H := HA.out
      clear HA
      simp only [plenumlaw02_small.l0] at H
      by_cases c2 : x4_1 < (l0.length : Int)
      · rw [if_pos c2] at H
        have c2b0 : decide (x4_1 < (l0.length : Int)) = true := decide_eq_true c2
        clear c2
        by_cases c3 : x4_1 < 70
        · rw [if_pos c3] at H
          have c3b0 : decide (x4_1 < 70) = true := decide_eq_true c3
          clear c3
          by_cases c4 : 0 ≤ x4_1
          · rw [if_pos c4] at H
            have c4b0 : decide (0 ≤ x4_1) = true := decide_eq_true c4
            clear c4
            obtain ⟨ji5, hji5⟩ : ∃ j_ : Int, (mn (((rd_T43 l0 x4_1).f4).size : Int) 100000) = j_ := ⟨_, rfl⟩
            replace H : (plenumlaw02_small.l0 k1 l0 (wrap64 (x3_1 + (ji5))) (wrap64 (x4_1 + 1))) = some r := by first | (rw [hji5] at H; exact H) | (simp only [hji5] at H ⊢; exact H)
            have hji5_ : (if 100000 < (((rd_T43 l0 x4_1).f4).size : Int) then 100000 else (((rd_T43 l0 x4_1).f4).size : Int)) = ji5 := hji5
            have H' := Aside0.mk H
            clear H
            have p259 : 0 ≤ (x4_1 : Int) := of_decide_eq_true (by first | (with_reducible assumption) | assumption)
            have q259 : x4_1 < (l0.length : Int) := of_decide_eq_true (by first | (with_reducible assumption) | assumption)
            obtain ⟨ad259, e259, hx259_0, hx259_1, hx259_2, hx259_3, hx259_4⟩ := at_T43 HR0.out x4_1 p259 q259
            cases e259
            replace hx259_0 := (HB.out.cell (World.block_lt_of_cell? w _ hx259_0)).trans hx259_0
            replace hx259_1 := (HB.out.cell (World.block_lt_of_cell? w _ hx259_1)).trans hx259_1
            replace hx259_2 := (HB.out.cell (World.block_lt_of_cell? w _ hx259_2)).trans hx259_2
            replace hx259_3 := (HB.out.cell (World.block_lt_of_cell? w _ hx259_3)).trans hx259_3
            replace hx259_4 := (HB.out.cell (World.block_lt_of_cell? w _ hx259_4)).trans hx259_4
            replace p259 := eq_true p259
            replace q259 := eq_true q259
            go_wp2
            go_roundg k1
            case measure => have := HK1.out; omega
            case rel => exact ⟨(wrap64 (x3_1 + (ji5))), (wrap64 (x4_1 + 1)), (by first | rfl | (simp; done) | (simp only [← hji5] <;> (first | rfl | simp)) | (simp [*]; done)), (by first | rfl | (simp; done) | (simp [*]; done)), H', ⟨by have := HK1.out; omega⟩, ⟨by repeat (first | (with_reducible first | exact HB.out | apply below_alloc | apply pw_below_drewN | apply below_drew1) | exact HB.out)⟩⟩
          · rw [if_neg c4] at H
            exact absurd H (by simp)
        · rw [if_neg c3] at H
          have c3b0 : decide (x4_1 < 70) = false := decide_eq_false c3
          clear c3
          by_cases c6 : (l0.length : Int) ≤ 60
          · rw [if_pos c6] at H
            have c6b0 : decide ((l0.length : Int) ≤ 60) = true := decide_eq_true c6
            have c6b1 : decide (l0.length ≤ 60) = true := decide_eq_true (by omega)
            clear c6
            obtain rfl := Option.some.inj H
            go_wp2
            go_ret
            exact ⟨by first | rfl | (simp [errW_none, errW_some] <;> rfl) | (simp [*, errW_none, errW_some] <;> rfl), by repeat (first | (with_reducible first | exact HB.out | apply below_alloc | apply pw_below_drewN | apply below_drew1) | exact HB.out)⟩
          · rw [if_neg c6] at H
            have c6b0 : decide ((l0.length : Int) ≤ 60) = false := decide_eq_false c6
            have c6b1 : decide (l0.length ≤ 60) = false := decide_eq_false (by omega)
            clear c6
            obtain rfl := Option.some.inj H
            go_wp2
            go_ret
            exact ⟨by first | rfl | (simp [errW_none, errW_some] <;> rfl) | (simp [*, errW_none, errW_some] <;> rfl), by repeat (first | (with_reducible first | exact HB.out | apply below_alloc | apply pw_below_drewN | apply below_drew1) | exact HB.out)⟩
      · rw [if_neg c2] at H
        have c2b0 : decide (x4_1 < (l0.length : Int)) = false := decide_eq_false c2
        clear c2
        by_cases c7 : (l0.length : Int) ≤ 60
        · rw [if_pos c7] at H
          have c7b0 : decide ((l0.length : Int) ≤ 60) = true := decide_eq_true c7
          have c7b1 : decide (l0.length ≤ 60) = true := decide_eq_true (by omega)
          clear c7
          obtain rfl := Option.some.inj H
          go_wp2
          go_ret
          exact ⟨by first | rfl | (simp [errW_none, errW_some] <;> rfl) | (simp [*, errW_none, errW_some] <;> rfl), by repeat (first | (with_reducible first | exact HB.out | apply below_alloc | apply pw_below_drewN | apply below_drew1) | exact HB.out)⟩
        · rw [if_neg c7] at H
          have c7b0 : decide ((l0.length : Int) ≤ 60) = false := decide_eq_false c7
          have c7b1 : decide (l0.length ≤ 60) = false := decide_eq_false (by omega)
          clear c7
          obtain rfl := Option.some.inj H
          go_wp2
          go_ret
          exact ⟨by first | rfl | (simp [errW_none, errW_some] <;> rfl) | (simp [*, errW_none, errW_some] <;> rfl), by repeat (first | (with_reducible first | exact HB.out | apply below_alloc | apply pw_below_drewN | apply below_drew1) | exact HB.out)⟩
end Go.Proofs.YtndeikikeeeigaaDoor.Q
end
section
namespace Go.Proofs.YtndeikikeeeigaaDoor.Q
open Go.RowKit Go.Proofs.YtndeikikeeeigaaDoor.Pure Go.Proofs.YtndeikikeeeigaaDoorW.PrintWords Go.Proofs.YtndeikikeeeigaaDoorW.PrintLast Go.Proofs.YtndeikikeeeigaaDoorW.PrintMore
set_option linter.unusedVariables false
set_option linter.unusedSimpArgs false
theorem wrB_len (x : S43) (hx : Ok43 x) : (wrB x).length ≤ 65545 := by
  unfold wrB
  have h1 := uB_len x.f2
  have h2 := sB_len x.f3 hx.n0 hx.n1
  have h3 := uB_len (x.f4.size : Int)
  have h4 := uB_len x.f3
  have h5 := bytesOf_length x.f4
  repeat' split
  all_goals simp
  all_goals omega
def bts (l0 : List S43) (k : Nat) : List Int := (l0.take k).flatMap wrB
theorem bts_succ (l0 : List S43) (k : Nat) (hk : k < l0.length) : bts l0 (k + 1) = bts l0 k ++ wrB (rd_T43 l0 (k : Int)) := by
  have hx : rd_T43 l0 (k : Int) = l0[k] := by simp [rd_T43, List.getD_eq_getElem?_getD, List.getElem?_eq_getElem hk]
  unfold bts
  rw [hx, List.take_succ_eq_append_getElem hk, List.flatMap_append]
  simp
theorem rd43_mem (l0 : List S43) (k : Nat) (hk : k < l0.length) : rd_T43 l0 (k : Int) ∈ l0 := by
  have hx : rd_T43 l0 (k : Int) = l0[k] := by simp [rd_T43, List.getD_eq_getElem?_getD, List.getElem?_eq_getElem hk]
  rw [hx]
  exact List.getElem_mem hk
theorem bts_len (l0 : List S43) (hok : ∀ x ∈ l0, Ok43 x) : ∀ k : Nat, k ≤ l0.length → (bts l0 k).length ≤ k * 65545 := by
  intro k
  induction k with
  | zero => intro _; simp [bts]
  | succ k ih =>
    intro hk
    have h1 := ih (by omega)
    have h2 := wrB_len _ (hok _ (rd43_mem l0 k (by omega)))
    rw [bts_succ l0 k (by omega), List.length_append]
    omega
def WritesOk (k : Nat) (l0 : List S43) : Prop := plenumlaw02_awake.f k = some true ∧ ∃ b, plenumlaw02_small.f k l0 = some b ∧ (b = true → l0.length ≤ 60) ∧ ∀ x ∈ l0, Ok43 x
open Classical in
noncomputable def plenumlaw02_CodecWrites.f (k : Nat) (l0 : List S43) : Option Bool := if WritesOk k l0 then some true else none
set_option maxHeartbeats 16000000 in
set_option maxRecDepth 100000 in
theorem plenumlaw02_CodecWrites.calls (k : Nat) (A0 : Option Addr) (c0 : Nat) (l0 : List S43) (r : Bool) (w : World) (hG : Glob w) (hr0 : Kd.C k43 w A0 l0.length l0) (hc0 : l0.length ≤ c0) (h : plenumlaw02_CodecWrites.f k l0 = some r) :
    Calls Tryd.prog 6 #[.slice A0 l0.length c0] w fun e w' => e = .returned (.bool r) ∧ Below w.heap.size w w' := by
  unfold plenumlaw02_CodecWrites.f at h
  by_cases hW : WritesOk k l0
  · rw [if_pos hW] at h
    obtain rfl := Option.some.inj h
    clear h
    obtain ⟨haw, b, hsm, hlen, hok⟩ := hW
    have HAW := Aside0.mk haw
    have HSM := Aside0.mk hsm
    have HG := Aside0.mk hG
    have HR := Aside0.mk hr0
    have HC := Aside0.mk hc0
    have HLN := Aside0.mk hlen
    have HOK := Aside0.mk hok
    have h00 := Aside0.mk (show 0 < w.heap.size by obtain ⟨t, h⟩ := hG; exact blk_lt h)
    clear haw hsm hG hr0 hc0 hlen hok
    cases b with
    | false =>
      go_enter Tryd.func6, Tryd.ntmps6
      go_wp2_with (first | (go_at_call 9; (with_reducible refine (plenumlaw02_awake.calls k true _ HG.out HAW.out).mono ?_); rintro e w1 ⟨rfl, hb⟩; have HB := Aside0.mk hb; clear hb) | (go_at_call 17; (with_reducible refine (plenumlaw02_small.calls k A0 c0 l0 false _ (Glob.below HG.out HB.out) (Kd.C_below HR.out HB.out) HC.out HSM.out).mono ?_); rintro e w2 ⟨rfl, hb⟩; have HB2 := Aside0.mk (below_step HB.out hb); clear hb))
      go_ret
      exact ⟨rfl, HB2.out⟩
    | true =>
      have hn := HLN.out rfl
      go_enter Tryd.func6, Tryd.ntmps6
      go_wp2_with (first | (go_at_call 9; (with_reducible refine (plenumlaw02_awake.calls k true _ HG.out HAW.out).mono ?_); rintro e w1 ⟨rfl, hb⟩; have HB := Aside0.mk hb; clear hb) | (go_at_call 17; (with_reducible refine (plenumlaw02_small.calls k A0 c0 l0 true _ (Glob.below HG.out HB.out) (Kd.C_below HR.out HB.out) HC.out HSM.out).mono ?_); rintro e w2 ⟨rfl, hb⟩; have HB2 := Aside0.mk (below_step HB.out hb); clear hb) | ((with_reducible refine gate_dst (N := 14) rfl ?_); refine box_event ?hg (N := 14) ?hd (cs := #[.slice none 0 0]) (t := 38) ?hr ?_; (case hd => rfl); (case hg => rfl); (case hr => first | (go_simp; done) | (go_simp; rfl)); intro g hg w3 hbox hb; have HW3 : Aside0 (WrAt w.heap.size g [] w3) := ⟨⟨_, hbox, by rw [hg]; exact HB2.out.size, Kd.R_nil _ _ _ _ _⟩⟩; have HB3 := Aside0.mk (below_step HB2.out hb); clear hb hbox hg))
      go_loopw [4, 5] (fun s i wr => ∃ j : Nat, j ≤ l0.length ∧ i = .int .i64 j ∧ s = .string (strOfNums (bts l0 j)) ∧ Aside0 (WrAt w.heap.size g (bts l0 j) wr) ∧ Aside0 (Below w.heap.size w wr)) (fun _ i _ => l0.length - (intOf i).toNat)
      case atStart => exact ⟨0, Nat.zero_le _, rfl, rfl, HW3, HB3⟩
      case round =>
        clear HW3 HB3
        obtain ⟨j, hj, rfl, rfl, HWj, HBj⟩ := hrel
        by_cases hlt : j < l0.length
        · obtain ⟨ad, e, hx0, hx1, hx2, hx3, hx4⟩ := at_T43 HR.out (j : Int) (by omega) (by omega)
          cases e
          replace hx0 := (HBj.out.cell (World.block_lt_of_cell? w _ hx0)).trans hx0
          replace hx1 := (HBj.out.cell (World.block_lt_of_cell? w _ hx1)).trans hx1
          replace hx2 := (HBj.out.cell (World.block_lt_of_cell? w _ hx2)).trans hx2
          replace hx3 := (HBj.out.cell (World.block_lt_of_cell? w _ hx3)).trans hx3
          replace hx4 := (HBj.out.cell (World.block_lt_of_cell? w _ hx4)).trans hx4
          rw [show ((j : Int)).toNat = j from rfl] at hx0 hx1 hx2 hx3 hx4
          have HLl := Aside0.mk (show (bts l0 j).length + 65600 ≤ wrMax by
            have := bts_len l0 HOK.out j (by omega)
            have : (bts l0 j).length ≤ 60 * 65545 := Nat.le_trans this (Nat.mul_le_mul_right _ (by omega))
            unfold wrMax
            omega)
          have HOx := Aside0.mk (HOK.out _ (rd43_mem l0 j hlt))
          have HWl := Aside0.mk (wrB_len _ HOx.out)
          obtain ⟨ls, HLs⟩ : ∃ ls, Aside0 (bts l0 (j + 1) = ls) := ⟨_, ⟨rfl⟩⟩
          have HLs2 := Aside0.mk ((bts_succ l0 j hlt).symm.trans HLs.out)
          generalize rd_T43 l0 (j : Int) = x at *
          generalize bts l0 j = l at *
          have hsz1 : (strOfNums l).size + (strOfNums (wrB x)).size ≤ 9223372036854775807 := by
            rw [strOfNums_size, strOfNums_size]
            have := HLl.out
            have := HWl.out
            unfold wrMax at *
            omega
          have HEq := Aside0.mk (show strOfNums l ++ strOfNums (wrB x) = strOfNums ls by rw [← strOfNums_app, HLs2.out])
          have hq1 : ((strOfNums ls).toList == (strOfNums l ++ strOfNums (wrB x)).toList) = true := by rw [HEq.out]; simp
          have hq2 : ((strOfNums ls).toList != (strOfNums l ++ strOfNums (wrB x)).toList) = false := by rw [HEq.out]; simp
          go_wp2_with (first | (go_at_call 18; (with_reducible refine (write_calls w.heap.size g l x _ ⟨Glob.below HG.out HBj.out⟩ h00.out HBj.out.size HWj.out HLl.out HOx.out).mono ?_); rintro e w5 ⟨rfl, ha, hb, hk⟩; rw [HLs2.out] at ha; have HA5 := Aside0.mk ha; have HB5 := Aside0.mk (HBj.out.trans hb); clear ha hb hk) | (go_at_call 19; (with_reducible refine (wr_data w.heap.size g ls _ HA5.out).mono ?_); rintro e w6 ⟨rfl, rfl⟩))
          refine ⟨⟨j + 1, by omega, by go_num, by rw [HEq.out, HLs.out], by rw [HLs.out]; exact HA5, HB5⟩, by simp [RowKit.intOf]; omega⟩
        · have hje : j = l0.length := by omega
          subst hje
          go_wp2
          go_ret
          exact ⟨rfl, HBj.out⟩
  · rw [if_neg hW] at h
    cases h
end Go.Proofs.YtndeikikeeeigaaDoor.Q
end
section
namespace Go.Proofs.YtndeikikeeeigaaDoor.Pure
open Go.RowKit Go.Proofs.YtndeikikeeeigaaDoor.Q Go.Proofs.YtndeikikeeeigaaDoorW.PrintWords Go.Proofs.YtndeikikeeeigaaDoorW.PrintLast Go.Proofs.YtndeikikeeeigaaDoorW.PrintMore
theorem awake_60 : plenumlaw02_awake.f 60 = some true := by decide +kernel
theorem awake_eq (k : Nat) : plenumlaw02_awake.f (k + 60) = some true := by
  induction k with
  | zero => exact awake_60
  | succ k ih =>
    have := plenumlaw02_awake.mono (k + 60)
    rw [show k + 1 + 60 = k + 60 + 1 by omega]
    exact this _ ih
end Go.Proofs.YtndeikikeeeigaaDoor.Pure
end
section
namespace Go.Proofs.YtndeikikeeeigaaDoor.Opn
open Go.RowKit Go.Proofs.YtndeikikeeeigaaDoorW.PrintWords
def Opn (P : Program) (t : TypeId) {α : Type} (d : Kd α) (V : α → Prop) : Prop :=
  ∀ (H : Type) (enc : TypeId × Value → H) (w : World) (fuel : Nat) (cs : List Value) (x : DataW H × List MemPlace),
    DataW.trod enc P w 0 (fun _ => true) true fuel t cs = some x → (∀ n ∈ DataW.weights P t x.1, n ≤ 140737488351232) → ∃ y, d.K w y cs ∧ V y
theorem opn_int {P : Program} {t : TypeId} {k : IntKind} (ht : P.underlying t = some (.int k)) : Opn P t (Kd.int k) (fun y => (Lit.int k y).wf = true) := by
  intro H enc w fuel cs x h _
  obtain ⟨n, rfl, _, hw⟩ := DataW.trod_int ht h
  exact ⟨n, rfl, hw⟩
theorem opn_bool {P : Program} {t : TypeId} (ht : P.underlying t = some .bool) : Opn P t Kd.bool (fun _ => True) := by
  intro H enc w fuel cs x h _
  obtain ⟨b, rfl, _⟩ := DataW.trod_bool ht h
  exact ⟨b, rfl, trivial⟩
theorem opn_string {P : Program} {t : TypeId} (ht : P.underlying t = some .string) : Opn P t Kd.string (fun y => y.size ≤ 140737488351232) := by
  intro H enc w fuel cs x h hw
  obtain ⟨s, rfl, rfl, _⟩ := DataW.trod_string ht h
  refine ⟨s, rfl, ?_⟩
  have := hw s.data.toList.length (by simp [DataW.weights])
  rw [Array.length_toList] at this
  exact this
theorem weights_all {H : Type} {P : Program} {e : TypeId} {d : DataW H} {n : Nat} (hn : n ∈ DataW.weights P e d) : ∀ {l : List (DataW H)}, d ∈ l → n ∈ DataW.weightsAll P e l
  | [], h => by simp at h
  | a :: r, h => by
    simp only [DataW.weightsAll, List.mem_append]
    rcases List.mem_cons.1 h with rfl | h
    · exact .inl hn
    · exact .inr (weights_all hn h)
theorem list_of {α : Type} (Q : Nat → α → Prop) : ∀ n, (∀ i, i < n → ∃ y, Q i y) → ∃ l : List α, l.length = n ∧ ∀ i y, l[i]? = some y → Q i y
  | 0, _ => ⟨[], rfl, fun i y h => by simp at h⟩
  | n + 1, h => by
    obtain ⟨l, hl, hq⟩ := list_of Q n (fun i hi => h i (by omega))
    obtain ⟨y, hy⟩ := h n (by omega)
    refine ⟨l ++ [y], by simp [hl], fun i z hz => ?_⟩
    rcases Nat.lt_or_ge i n with hi | hi
    · rw [List.getElem?_append_left (by omega)] at hz
      exact hq i z hz
    · have : i = n := by
        have := (List.getElem?_eq_some_iff.1 hz).1
        simp [hl] at this
        omega
      subst this
      rw [List.getElem?_append_right (by omega), hl, Nat.sub_self] at hz
      simp at hz
      subst hz
      exact hy
theorem opn_slice {P : Program} {t e : TypeId} {α : Type} {d : Kd α} {V : α → Prop} {B : Nat} (ht : P.underlying t = some (.slice e)) (hs : P.cellsOf e = d.sz) (hB : P.bytesOf e = B) (he : Opn P e d V) :
    Opn P t (Kd.slice e d) (fun xs => xs.length * B ≤ 140737488351232 ∧ ∀ x ∈ xs, V x) := by
  intro H enc w fuel cs x h hw
  rcases Go.Deep.open_slice ht h with ⟨rfl, rfl⟩ | ⟨a, len, cap, m, n, D, Pl, rfl, _, hl, hm, hmm, rfl, hi⟩
  · exact ⟨[], ⟨none, 0, rfl, by simp, rfl, by simp, fun hn => absurd hn (by simp)⟩, by simp, by simp⟩
  have hmm' : m = cap := by simpa using hmm
  subst hmm'
  have hw' : (len + (m - len)) * B ≤ 140737488351232 := by
    have := hw ((len + (m - len)) * B) (by simp [DataW.weights, ht, hB])
    exact this
  obtain ⟨l, hlen, hq⟩ := list_of (fun i y => ∃ c, w.cells? 0 (a.add (i * P.cellsOf e)) (P.cellsOf e) = some c ∧ d.K w y c ∧ V y) len (fun i hil => by
    obtain ⟨c, hc, htr⟩ := hi i (by omega)
    obtain ⟨y, hy, hV⟩ := he H enc w n c _ htr (fun k hk => hw k (by
      simp only [DataW.weights, ht, List.mem_cons, List.mem_append]
      exact .inr (.inl (weights_all hk (List.mem_map.2 ⟨i, List.mem_range.2 hil, rfl⟩)))))
    exact ⟨y, c, hc, hy, hV⟩)
  refine ⟨l, ⟨some a, m, by rw [hlen], by omega, ?_⟩, ?_, ?_⟩
  · refine ⟨rfl, by simp only [maxLen] at hm; omega, fun _ => ⟨a, rfl, fun j p hj => ?_⟩⟩
    obtain ⟨c, hc, hK, _⟩ := hq j p hj
    obtain ⟨_, hcl, hat⟩ := World.cells?_some hc
    refine ⟨c, by rw [hcl, hs], hK, fun i u hu => ?_⟩
    have hil : i < P.cellsOf e := by
      have := (List.getElem?_eq_some_iff.1 hu).1
      omega
    rw [← hs, ← Go.Deep.add_add, hat i hil, hu]
  · rw [hlen]
    exact Nat.le_trans (Nat.mul_le_mul_right _ (by omega)) hw'
  · intro y hy
    obtain ⟨i, hi2⟩ := List.mem_iff_getElem?.1 hy
    exact (hq i y hi2).elim fun c h => h.2.2
def OpnF (P : Program) (fs : List Field) {α : Type} (d : Kd α) (V : α → Prop) (o : Nat) : Prop :=
  ∀ (H : Type) (enc : TypeId × Value → H) (w : World) (n : Nat) (cs : List Value) (xs : List (DataW H × List MemPlace)),
    o + d.sz ≤ cs.length →
    (∀ (i : Nat) (f : Field), fs[i]? = some f → ∃ x, xs[i]? = some x ∧ DataW.trod enc P w 0 (fun _ => true) true n f.type ((cs.drop f.offset).take (P.cellsOf f.type)) = some x ∧ ∀ k ∈ DataW.weights P f.type x.1, k ≤ 140737488351232) →
    ∃ y, d.K w y ((cs.drop o).take d.sz) ∧ V y
theorem opn_last {P : Program} {f : Field} {α : Type} {d : Kd α} {V : α → Prop} {o : Nat} (ho : f.offset = o) (hs : P.cellsOf f.type = d.sz) (h : Opn P f.type d V) : OpnF P [f] d V o := by
  intro H enc w n cs xs _ hx
  obtain ⟨x, _, ht, hw⟩ := hx 0 f rfl
  rw [hs, ho] at ht
  exact h H enc w n _ x ht hw
theorem take_two {α : Type} (cs : List α) (o a b : Nat) : (cs.drop o).take (a + b) = (cs.drop o).take a ++ (cs.drop (o + a)).take b := by
  rw [List.take_add, List.drop_drop]
theorem opn_cons {P : Program} {f : Field} {fs : List Field} {α β : Type} {a : Kd α} {b : Kd β} {V : α → Prop} {U : β → Prop} {o : Nat} (ho : f.offset = o) (hs : P.cellsOf f.type = a.sz) (h : Opn P f.type a V) (hr : OpnF P fs b U (o + a.sz)) :
    OpnF P (f :: fs) (Kd.pair a b) (fun y => V y.1 ∧ U y.2) o := by
  intro H enc w n cs xs hl hx
  obtain ⟨x, hx0, ht, hw⟩ := hx 0 f rfl
  rw [hs, ho] at ht
  obtain ⟨y, hy, hV⟩ := h H enc w n _ x ht hw
  have hl' : o + (a.sz + b.sz) ≤ cs.length := hl
  obtain ⟨z, hz, hU⟩ := hr H enc w n cs (xs.drop 1) (by omega) (fun i g hg => by
    obtain ⟨x', h1, h2⟩ := hx (i + 1) g (by simpa using hg)
    exact ⟨x', by rw [List.getElem?_drop, Nat.add_comm]; exact h1, h2⟩)
  exact ⟨(y, z), ⟨_, _, take_two cs o a.sz b.sz, hy, hz⟩, hV, hU⟩
theorem opn_struct {P : Program} {t : TypeId} {fa : Array Field} {fs : List Field} {α β : Type} {d : Kd α} {V : α → Prop} (ht : P.underlying t = some (.struct fa)) (hf : fa.toList = fs) (hs : P.cellsOf t = d.sz) (g : β → α) (g' : α → β) (hg : ∀ y, g (g' y) = y)
    (h : OpnF P fs d V 0) : Opn P t (Kd.iso d g) (fun x => V (g x)) := by
  intro H enc w fuel cs x hx hw
  obtain ⟨xs, n, rfl, rfl, hl, hxl, hfs⟩ := DataW.trod_struct ht hx
  obtain ⟨y, hy, hV⟩ := h H enc w n cs xs (by omega) (fun i f hi => by
    have hi' : fa[i]? = some f := by rw [← hf] at hi; simpa using hi
    have hlt : i < xs.length := by
      rw [hxl]
      exact (Array.getElem?_eq_some_iff.1 hi').1
    have h1 := hfs i f hi'
    refine ⟨xs[i], List.getElem?_eq_getElem hlt, by rw [h1, List.getElem?_eq_getElem hlt], fun k hk => hw k ?_⟩
    simp only [DataW.weights, ht]
    refine DataW.weights_mem_each (j := i) (t := f.type) (d := xs[i].1) ?_ ?_ k hk
    · rw [List.getElem?_map, hf, hi]
      rfl
    · rw [List.getElem?_map, List.getElem?_eq_getElem hlt]
      rfl)
  refine ⟨g' y, ?_, ?_⟩
  · show d.K w (g (g' y)) cs
    rw [hg]
    rw [List.drop_zero, ← hs, ← hl, List.take_length] at hy
    exact hy
  · show V (g (g' y))
    rw [hg]
    exact hV
theorem arg_slice {H : Type} {enc : TypeId × Value → H} {P : Program} {t e : TypeId} {α : Type} {d : Kd α} {V : List α → Prop} {W : World} {v : Value} {x : DataW H} {ps : List MemPlace} (ho : Opn P t (Kd.slice e d) V) (a : Option Addr) (len cap : Nat) (hv : v = .slice a len cap)
    (h : DataW.Trod enc P W 0 (fun _ => true) true t v x ps) (hw : ∀ n ∈ DataW.weights P t x, n ≤ 140737488351232) : ∃ (A : Option Addr) (c : Nat) (l : List α), v = .slice A l.length c ∧ l.length ≤ c ∧ Kd.C d W A l.length l ∧ V l := by
  obtain ⟨fuel, hf⟩ := h
  obtain ⟨l, ⟨A, c, hc, hl, hC⟩, hV⟩ := ho H enc W fuel _ _ hf hw
  subst hv
  have he : Value.slice a len cap = .slice A l.length c := by simpa [Value.cells] using hc
  exact ⟨A, c, l, he, hl, hC, hV⟩
theorem arg_weights {H : Type} {P : Program} {ts : List TypeId} {ds : List (DataW H)} (h : (DataW.weightsEach P ts ds).all (· ≤ reachBytes) = true) {j : Nat} {t : TypeId} {d : DataW H} (ht : ts[j]? = some t) (hd : ds[j]? = some d) : ∀ n ∈ DataW.weights P t d, n ≤ 140737488351232 := by
  intro n hn
  have := List.all_eq_true.1 h n (DataW.weights_mem_each ht hd n hn)
  exact of_decide_eq_true this
end Go.Proofs.YtndeikikeeeigaaDoor.Opn
end
section
namespace Go.Proofs.YtndeikikeeeigaaDoor.Q
open Go.RowKit Go.Proofs.YtndeikikeeeigaaDoorW.PrintWords Go.Proofs.YtndeikikeeeigaaDoor.Opn
def V43 (x : S43) : Prop := ((Lit.int .i64 x.f0).wf = true) ∧ (True) ∧ ((Lit.int .u64 x.f2).wf = true) ∧ ((Lit.int .i64 x.f3).wf = true) ∧ (x.f4.size ≤ 140737488351232)
theorem opn43 : Opn Tryd.prog 43 k43 V43 := opn_struct Tryd.underlying43 rfl (by kernel_rfl) (fun x : S43 => (x.f0, x.f1, x.f2, x.f3, x.f4)) (fun y => (⟨y.1, y.2.1, y.2.2.1, y.2.2.2.1, y.2.2.2.2⟩ : S43)) (fun _ => rfl) (opn_cons rfl (by kernel_rfl) (opn_int Tryd.underlying3) (opn_cons rfl (by kernel_rfl) (opn_bool Tryd.underlying4) (opn_cons rfl (by kernel_rfl) (opn_int Tryd.underlying41) (opn_cons rfl (by kernel_rfl) (opn_int Tryd.underlying2) (opn_last rfl (by kernel_rfl) (opn_string Tryd.underlying9))))))
end Go.Proofs.YtndeikikeeeigaaDoor.Q
end
section
namespace Go.Proofs.YtndeikikeeeigaaDoor.Pure
open Go.RowKit Go.Proofs.YtndeikikeeeigaaDoor.Q Go.Proofs.YtndeikikeeeigaaDoorW.PrintWords Go.Proofs.YtndeikikeeeigaaDoorW.PrintLast Go.Proofs.YtndeikikeeeigaaDoorW.PrintMore
set_option linter.unusedVariables false
theorem small_loop (l : List S43) : ∀ (d i k : Nat) (n : Int), i + d = 70 → ∃ b, plenumlaw02_small.l0 (k + d + 1) l n (i : Int) = some b ∧ (b = true → l.length ≤ 60) := by
  have fin : ∀ n : Int, ∃ b, (if (l.length : Int) ≤ 60 then some (decide (n ≤ 70000)) else some false) = some b ∧ (b = true → l.length ≤ 60) := fun n => by
    by_cases c : (l.length : Int) ≤ 60
    · rw [if_pos c]; exact ⟨_, rfl, fun _ => by omega⟩
    · rw [if_neg c]; exact ⟨_, rfl, fun h => by cases h⟩
  intro d
  induction d with
  | zero =>
    intro i k n hi
    rw [show k + 0 + 1 = k + 1 by omega, plenumlaw02_small.l0]
    by_cases c : (i : Int) < (l.length : Int)
    · rw [if_pos c, if_neg (by omega)]; exact fin n
    · rw [if_neg c]; exact fin n
  | succ d ih =>
    intro i k n hi
    rw [show k + (d + 1) + 1 = (k + d + 1) + 1 by omega, plenumlaw02_small.l0]
    by_cases c : (i : Int) < (l.length : Int)
    · rw [if_pos c, if_pos (by omega), if_pos (by omega), w64 (n := (i : Int) + 1) (by omega) (by omega)]
      exact ih (i + 1) k _ (by omega)
    · rw [if_neg c]; exact fin n
theorem small_some (l : List S43) (k : Nat) : ∃ b, plenumlaw02_small.f (k + 71) l = some b ∧ (b = true → l.length ≤ 60) := small_loop l 70 0 k 0 (by omega)
theorem ok43 {x : S43} (h : V43 x) : Ok43 x := by
  obtain ⟨_, _, hu, hn, _⟩ := h
  have h1 : (decide ((0 : Int) ≤ x.f2) && decide (x.f2 ≤ 18446744073709551615)) = true := hu
  have h2 : (decide ((-9223372036854775808 : Int) ≤ x.f3) && decide (x.f3 ≤ 9223372036854775807)) = true := hn
  simp only [Bool.and_eq_true, decide_eq_true_eq] at h1 h2
  exact ⟨h1.1, by omega, h2.1, h2.2⟩
theorem CodecWrites (l : List S43) (hl : l.length * 48 ≤ 140737488351232 ∧ ∀ y ∈ l, V43 y) : ∃ k, plenumlaw02_CodecWrites.f k l = some true := by
  obtain ⟨b, hb, hb2⟩ := small_some l 29
  refine ⟨100, ?_⟩
  unfold plenumlaw02_CodecWrites.f
  rw [if_pos]
  exact ⟨awake_eq 40, b, hb, hb2, fun x hx => ok43 (hl.2 x hx)⟩
end Go.Proofs.YtndeikikeeeigaaDoor.Pure
end
section
namespace Go.Proofs.YtndeikikeeeigaaDoor.codecWrites
open Go.ChangeShapes Go.WideShapes Go.ChangeAt Go.RowKit
open Go.ChangeMaps (open_string shut_string)
open Go.Proofs.YtndeikikeeeigaaDoor.Opn Go.Proofs.YtndeikikeeeigaaDoorW.PrintWords Go.Proofs.YtndeikikeeeigaaDoor.Q
set_option linter.unusedVariables false
theorem own : ownKnob Tryd.prog.godebug = none := by kernel_rfl
theorem laidOut : laidOutB Tryd.prog = true := by kernel_rfl
set_option maxHeartbeats 2000000 in
set_option maxRecDepth 100000 in
theorem lifted (os : Os) (started : os.Started) (H : Type) (enc : TypeId × Value → H) :
    ReturnsInHanded {} Tryd.checked os 6 .any (fun w args => (Rows.codecWritesSpec.pre enc Tryd.prog Tryd.f6 Rows.codecWritesRow.domain false w args ∧ laidMet Tryd.prog theLaid w) ∧ sizedMet enc Tryd.prog Tryd.f6 (OpenSpec.ofChange Rows.codecWritesSpec) false w args) (Rows.codecWritesSpec.post enc Tryd.prog Tryd.f6 false true false false) := by
  refine returnsInHanded_of_change_and (C := Tryd.checked) (X := fun w _ => laidMet Tryd.prog theLaid w) (fun _ _ _ hh h => h.of_heap hh) own started (by kernel_rfl) Tryd.func6
    (ChangeSpec.witness_at (enc := enc) (C := Tryd.checked) (os := os) (X := fun w _ => laidMet Tryd.prog theLaid w) false (laidWorld os) #[.slice none 0 0] 8 rfl (by kernel_rfl) (by kernel_rfl) (by kernel_rfl) (by kernel_rfl) (by kernel_rfl) (laidWorld_met os _)) ?_
  intro W base args ds gs before hval0 hW hcnd hsz0 hL0 _
  have hGl := glob_of_laid hL0
  have hsz : (DataW.weightsEach Tryd.prog (Tryd.f6.params.toList ++ Rows.codecWritesSpec.plain.varTypes Tryd.prog) (ds ++ gs)).all (· ≤ reachBytes) = true := hsz0
  have hval : ∀ (j : Nat) t v, Tryd.f6.params[j]? = some t → args[j]? = some v → Value.okWide Tryd.prog W .any base t v := hval0
  have hW' := hW
  obtain ⟨p, q, hA0, hV, rfl, hfz, hnd⟩ := hW
  have hA : DataW.TrodAll enc Tryd.prog W 0 (fun _ => true) true Tryd.f6.params.toList args.toList ds p := hA0
  rw [Tryd.params6] at hA hval hsz
  obtain ⟨v0, vs0, d0, ds0, p0, q0, hargs, rfl, rfl, h0, r0⟩ := trodAll_cons hA
  obtain ⟨rfl, rfl, rfl⟩ := trodAll_nil r0
  obtain rfl : args = #[v0] := by cases args; simp_all
  obtain ⟨rfl, rfl⟩ := trodVars_none hV
  have k0 := h0
  have lt0 : ∀ x ∈ p0, x.block < W.heap.size := by obtain ⟨m, hm⟩ := k0; exact DataW.trod_lt m _ _ _ hm
  obtain ⟨b0, len0, cap0, hb0⟩ := okWide_slice Tryd.underlying34 (hval 0 34 v0 rfl rfl)
  obtain ⟨A0, c0, l0, hv0, hc0, hr0, hV0⟩ := arg_slice (opn_slice (B := 48) Tryd.underlying34 (by kernel_rfl) (by kernel_rfl) opn43) b0 len0 cap0 hb0 h0 (arg_weights hsz (j := 0) (t := 34) rfl rfl)
  clear hb0
  subst hv0
  clear hA0 hval0 hsz0 hsz
  obtain ⟨k, h⟩ := Pure.CodecWrites l0 hV0
  refine (Q.plenumlaw02_CodecWrites.calls k A0 c0 l0 true W hGl hr0 hc0 h).mono fun e W' ⟨he, bel0⟩ => ?_
  have bel : Below W.heap.size W W' := bel0
  subst he
  exact ⟨_, rfl, _, _, _, [], _, [], hW', trodAll_mk1 (shut_bool Tryd.underlying4 _), (trodAll_cons_mk (Below.trod laidOut (by kernel_rfl) (of_decide_eq_true (by kernel_rfl)) k0 bel lt0) trodAll_mk0), rfl, bel.frame _, fun h => by cases h⟩
theorem over : Rows.codecWritesRow.holds Tryd.pinned (OpenSpec.ofChange Rows.codecWritesSpec) :=
  OpenClaim.holds_of_wide 6 Tryd.f6 rfl rfl rfl rfl rfl rfl rfl ⟨rfl, rfl, rfl, rfl, rfl⟩ rfl rfl rfl rfl rfl (by kernel_rfl) Tryd.func6 (by kernel_rfl)
    (of_decide_eq_true (by kernel_rfl)) (by unfold Func.isWrapper; first | (rw [if_pos (by decide +kernel)]; kernel_rfl) | (rw [if_neg (by decide +kernel)]; exact ⟨rfl, rfl⟩))
    (fun os started H enc _ => lifted os started H enc)
theorem card_holds : Rows.CodecWritesCardSaid :=
  Claim7.holds_tied_plain_at .later [] [.data] true (true, "df68463a3ead1255f1618a87c8c1347ab87336f1cb44d5b5530c4be1e9654a40") false
    over (fun _ h => by cases h) (by kernel_rfl) (fun _ h => by cases h) codecWrites_row_tie rfl ⟨rfl, rfl⟩ (by kernel_rfl) rfl
    (fun f fn hf hfn => by
      obtain rfl : f = 6 := Option.some.inj ((show Tryd.prog.funcNamed "plenum/plenumlaw02.CodecWrites" = some 6 by kernel_rfl).symm.trans hf) |>.symm
      obtain rfl : fn = Tryd.f6 := (Option.some.inj (Tryd.func6.symm.trans hfn)).symm
      exact ⟨by kernel_rfl, fun j t ht => by
        rw [Tryd.params6] at ht
        have ho : t = 34 := by
          rcases j with _ | j
          all_goals simp at ht
          all_goals subst ht; simp
        subst ho
        exact (show Tryd.prog.wantsStandIn 34 = false by kernel_rfl)⟩)
    (by kernel_rfl)
#print axioms card_holds
end Go.Proofs.YtndeikikeeeigaaDoor.codecWrites
namespace Go.Proofs.YtndeikikeeeigaaDoor
theorem codecWrites_holds : Rows.CodecWritesCardSaid := codecWrites.card_holds
end Go.Proofs.YtndeikikeeeigaaDoor
end
