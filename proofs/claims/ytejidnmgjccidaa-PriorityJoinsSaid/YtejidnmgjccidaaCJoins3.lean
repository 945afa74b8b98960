/- PriorityJoins: one part of the proof that the law answers true for every input, and that its arguments read afterwards as before. No condition. -/
import Derived.Test.YtejidnmgjccidaaCJoins2
import Derived.ProofKit
import Derived.Deep.Slices
import Derived.SizedLaws
import Derived.OpenShut
import Derived.DataReads
import Derived.WalkKit
import Derived.ShutString
import Derived.ChangeOld
import Derived.Below
import Derived.Test.YtejidnmgjccidaaRows
section
namespace Go.Proofs.Ytejidnmgjccidaa.R
open Go.RowKit Go.Proofs.YtejidnmgjccidaaW.PrintWords Go.Proofs.YtejidnmgjccidaaW.PrintLast Go.Proofs.YtejidnmgjccidaaW.PrintMore
attribute [local go_sem] max2_int min2_int max_two min_two max_three min_three max_four min_four
set_option linter.unusedVariables false
set_option linter.unusedSimpArgs false
mutual
def plenumlaw13_PriorityJoins.j0 : Nat → List (S25) → List (S25) → List (S25) → Bool → Option (Bool)
  | 0, _, _, _, _ => none
  | k + 1, x0, x1, x2, x24 => if x24 = true then (some true) else (plenumlaw13_PriorityJoins.l0 k x0 x1 x2 ([] : List (S25)) (wrap64 ((x0.length : Int) - 1)))
def plenumlaw13_PriorityJoins.l0 : Nat → List (S25) → List (S25) → List (S25) → List (S25) → Int → Option (Bool)
  | 0, _, _, _, _, _ => none
  | k + 1, x0, x1, x2, x7, x8 => if x8 ≥ 0 then (if 0 ≤ x8 then (if x8 < (x0.length : Int) then ((some (([(⟨(rd_T25 x0 x8).f0, (rd_T25 x0 x8).f1, (⟨(rd_T25 x0 x8).f2.f0, (rd_T25 x0 x8).f2.f1⟩ : S23)⟩ : S25), (⟨(rd_T25 x0 x8).f0, (rd_T25 x0 x8).f1, (⟨(rd_T25 x0 x8).f2.f0, (rd_T25 x0 x8).f2.f1⟩ : S23)⟩ : S25)] : List (S25)) : List (S25))).bind fun y326 => (if x7.length + y326.length < 4398046511104 then (plenumlaw13_PriorityJoins.l0 k x0 x1 x2 (x7 ++ y326) (wrap64 (x8 - 1))) else (none))) else (none)) else (none)) else ((priority_Join.f x0 x1).bind fun t332 => ((priority_Join.f x1 x0).bind fun t335 => ((plenumref13_Same.f k t332 t335).bind fun t338 => (if t338 = true then ((priority_Join.f t332 x2).bind fun t339 => ((priority_Join.f x1 x2).bind fun t342 => ((priority_Join.f x0 t342).bind fun t345 => ((plenumref13_Same.f k t339 t345).bind fun t348 => (if t348 = true then ((priority_Join.f t332 t332).bind fun t349 => ((plenumref13_Same.f k t349 t332).bind fun t352 => (if t352 = true then ((priority_Of.f t332).bind fun t353 => ((plenumref13_Same.f k t353 t332).bind fun t356 => (if t356 = true then ((priority_Of.f x7).bind fun t357 => ((priority_Of.f x0).bind fun t360 => ((plenumref13_Same.f k t357 t360).bind fun t363 => (some t363)))) else (none)))) else (none)))) else (none)))))) else (none)))))
end
def plenumlaw13_PriorityJoins.f (k : Nat) (l0 : List (S25)) (l1 : List (S25)) (l2 : List (S25)) : Option (Bool) := (plenumlaw13_awake.f k).bind fun t320 => (if t320 = true then ((plenumlaw13_few.f l0).bind fun t321 => (if t321 = true then ((plenumlaw13_few.f l1).bind fun t322 => (if t322 = true then ((plenumlaw13_few.f l2).bind fun t323 => (plenumlaw13_PriorityJoins.j0 k l0 l1 l2 (!t323))) else (plenumlaw13_PriorityJoins.j0 k l0 l1 l2 true))) else (plenumlaw13_PriorityJoins.j0 k l0 l1 l2 true))) else (none))
def plenumlaw13_PriorityJoins.T9 : Bool × List (List Nat × List Nat) := (true, [([], []), ([], []), ([], []), ([1, 2], [1, 2]), ([3], [3]), ([], []), ([], []), ([5, 6], [5, 6]), ([7], [7]), ([4, 8], [4, 8]), ([0, 9], [0, 9]), ([10, 10, 0, 1, 2, 3, 4, 5, 6, 7, 8, 9, 10], [0, 10])])
def plenumlaw13_PriorityJoins.B9 : List Nat := [0, 0, 0, 6, 14, 0, 0, 96, 224, 510, 1023, 2047]
theorem plenumlaw13_PriorityJoins.tab9 : rtab .any (opsOf Try.f6 9) = plenumlaw13_PriorityJoins.T9 := by kernel_rfl
theorem plenumlaw13_PriorityJoins.bits9 : waitsOk plenumlaw13_PriorityJoins.T9.2 plenumlaw13_PriorityJoins.B9 = true := by kernel_rfl
set_option maxHeartbeats 8000000 in
set_option maxRecDepth 100000 in
theorem plenumlaw13_PriorityJoins.calls (k : Nat) (A0 : Option Addr) (c0 : Nat) (l0 : List (S25)) (A1 : Option Addr) (c1 : Nat) (l1 : List (S25)) (A2 : Option Addr) (c2 : Nat) (l2 : List (S25)) (r : Bool) (w : World) (hr0 : Kd.C k25 w A0 l0.length l0) (hc0 : l0.length ≤ c0) (hr1 : Kd.C k25 w A1 l1.length l1) (hc1 : l1.length ≤ c1) (hr2 : Kd.C k25 w A2 l2.length l2) (hc2 : l2.length ≤ c2) (h : plenumlaw13_PriorityJoins.f k l0 l1 l2 = some r) :
    Calls Try.prog 6 #[.slice A0 l0.length c0, .slice A1 l1.length c1, .slice A2 l2.length c2] w fun e w' => e = .returned (.bool r) ∧ Below w.heap.size w w' := by
  have hu25 := Try.underlying25
  have HR0 := Aside0.mk hr0
  have HC0 := Aside0.mk hc0
  clear hr0 hc0
  have HR1 := Aside0.mk hr1
  have HC1 := Aside0.mk hc1
  clear hr1 hc1
  have HR2 := Aside0.mk hr2
  have HC2 := Aside0.mk hc2
  clear hr2 hc2
  have HB := Aside0.mk (Below.refl w.heap.size w)
  have H : ((plenumlaw13_awake.f k).bind fun t320 => (if t320 = true then ((plenumlaw13_few.f l0).bind fun t321 => (if t321 = true then ((plenumlaw13_few.f l1).bind fun t322 => (if t322 = true then ((plenumlaw13_few.f l2).bind fun t323 => (plenumlaw13_PriorityJoins.j0 k l0 l1 l2 (!t323))) else (plenumlaw13_PriorityJoins.j0 k l0 l1 l2 true))) else (plenumlaw13_PriorityJoins.j0 k l0 l1 l2 true))) else (none))) = some r := h
  clear h
  replace H := Option.bind_eq_some_iff.mp H
  obtain ⟨t320, A40, H⟩ := H
  replace H : (if t320 = true then ((plenumlaw13_few.f l0).bind fun t321 => (if t321 = true then ((plenumlaw13_few.f l1).bind fun t322 => (if t322 = true then ((plenumlaw13_few.f l2).bind fun t323 => (plenumlaw13_PriorityJoins.j0 k l0 l1 l2 (!t323))) else (plenumlaw13_PriorityJoins.j0 k l0 l1 l2 true))) else (plenumlaw13_PriorityJoins.j0 k l0 l1 l2 true))) else (none)) = some r := H
  have A4 := Aside0.mk A40
  clear A40
  by_cases c5 : t320 = true
  · subst c5
    have H1 : ((plenumlaw13_few.f l0).bind fun t321 => (if t321 = true then ((plenumlaw13_few.f l1).bind fun t322 => (if t322 = true then ((plenumlaw13_few.f l2).bind fun t323 => (plenumlaw13_PriorityJoins.j0 k l0 l1 l2 (!t323))) else (plenumlaw13_PriorityJoins.j0 k l0 l1 l2 true))) else (plenumlaw13_PriorityJoins.j0 k l0 l1 l2 true))) = some r := by rw [if_pos rfl] at H; exact H
    clear H
    have H := H1
    clear H1
    have HC6 := Aside0.mk H
    clear H
    go_enter Try.func6, Try.ntmps6
    go_upto_region 3 with (first | ((with_reducible refine gate_callee (f := 10) rfl ?_); refine goesL_ (some 10) rfl rfl Try.func10 (by kernel_rfl) rfl #[] rfl (by (try simp only [List.map_toArray, List.map_cons, List.map_nil]); first | done | rfl | (simp only [List.length_drop, List.length_take]; rfl)) ?_; (with_reducible refine (plenumlaw13_awake.calls k  true _ A4.out).mono ?_); rintro e w7 ⟨rfl, hb⟩; refine ⟨_, rfl, ?_⟩; have n0_ := Aside0.mk (below_step (by repeat (first | (with_reducible first | exact HB.out | apply below_alloc | apply pw_below_drewN | apply below_drew1) | exact HB.out)) hb); clear HB; have HB := n0_; clear n0_; (try clear hb); (try clear hb2); (try clear hk); (try clear hi)))
    (try simp only [Act.put, List.setIfInBounds_toArray, List.set_cons_zero, List.set_cons_succ])
    go_cut [24] (fun v24 wc => ∃ (kq : Nat) (x24_5 : Bool), v24 = .bool x24_5 ∧ Aside0 (plenumlaw13_PriorityJoins.j0 kq l0 l1 l2 x24_5 = some r) ∧ Aside0 (kq ≤ k) ∧ Aside0 (Below w.heap.size w wc))
    case first =>
      have H := HC6.out
      clear HC6
      replace H := Option.bind_eq_some_iff.mp H
      obtain ⟨t321, A80, H⟩ := H
      replace H : (if t321 = true then ((plenumlaw13_few.f l1).bind fun t322 => (if t322 = true then ((plenumlaw13_few.f l2).bind fun t323 => (plenumlaw13_PriorityJoins.j0 k l0 l1 l2 (!t323))) else (plenumlaw13_PriorityJoins.j0 k l0 l1 l2 true))) else (plenumlaw13_PriorityJoins.j0 k l0 l1 l2 true)) = some r := H
      have A8 := Aside0.mk A80
      clear A80
      by_cases c9 : t321 = true
      · subst c9
        have H1 : ((plenumlaw13_few.f l1).bind fun t322 => (if t322 = true then ((plenumlaw13_few.f l2).bind fun t323 => (plenumlaw13_PriorityJoins.j0 k l0 l1 l2 (!t323))) else (plenumlaw13_PriorityJoins.j0 k l0 l1 l2 true))) = some r := by rw [if_pos rfl] at H; exact H
        clear H
        have H := H1
        clear H1
        replace H := Option.bind_eq_some_iff.mp H
        obtain ⟨t322, A100, H⟩ := H
        replace H : (if t322 = true then ((plenumlaw13_few.f l2).bind fun t323 => (plenumlaw13_PriorityJoins.j0 k l0 l1 l2 (!t323))) else (plenumlaw13_PriorityJoins.j0 k l0 l1 l2 true)) = some r := H
        have A10 := Aside0.mk A100
        clear A100
        by_cases c11 : t322 = true
        · subst c11
          have H1 : ((plenumlaw13_few.f l2).bind fun t323 => (plenumlaw13_PriorityJoins.j0 k l0 l1 l2 (!t323))) = some r := by rw [if_pos rfl] at H; exact H
          clear H
          have H := H1
          clear H1
          replace H := Option.bind_eq_some_iff.mp H
          obtain ⟨t323, A120, H⟩ := H
          replace H : (plenumlaw13_PriorityJoins.j0 k l0 l1 l2 (!t323)) = some r := H
          have A12 := Aside0.mk A120
          clear A120
          have H' := Aside0.mk H
          clear H
          go_wp2_with (first | ((with_reducible refine gate_callee (f := 11) rfl ?_); refine goesL_ (some 13) rfl rfl Try.func11 (by kernel_rfl) rfl #[.slice A0 l0.length c0] rfl (by (try simp only [List.map_toArray, List.map_cons, List.map_nil]); first | done | rfl | (simp only [List.length_drop, List.length_take]; rfl)) ?_; (with_reducible refine (plenumlaw13_few.calls _ _ l0 true _ ?side1 ?side2 A8.out).mono ?_); (case side1 => repeat (first | exact (Kd.C_below HR0.out HB.out) | (with_reducible refine Kd.C_alloc ?_ _) | (with_reducible refine Kd.C_drewN ?_ _) | (with_reducible refine Kd.C_drew ?_))); (case side2 => exact HC0.out); rintro e w' ⟨rfl, ⟨nd, rfl⟩⟩; refine ⟨_, rfl, ?_⟩) | (go_at_call 11; (with_reducible refine (plenumlaw13_few.calls _ _ l1 true _ ?side1 ?side2 A10.out).mono ?_); (case side1 => repeat (first | exact (Kd.C_below HR1.out (by repeat (first | (with_reducible first | exact HB.out | apply below_alloc | apply pw_below_drewN | apply below_drew1) | exact HB.out))) | (with_reducible refine Kd.C_alloc ?_ _) | (with_reducible refine Kd.C_drewN ?_ _) | (with_reducible refine Kd.C_drew ?_))); (case side2 => exact HC1.out); rintro e w' ⟨rfl, ⟨nd, rfl⟩⟩) | (go_at_call 11; (with_reducible refine (plenumlaw13_few.calls _ _ l2 t323 _ ?side1 ?side2 A12.out).mono ?_); (case side1 => repeat (first | exact (Kd.C_below HR2.out (by repeat (first | (with_reducible first | exact HB.out | apply below_alloc | apply pw_below_drewN | apply below_drew1) | exact HB.out))) | (with_reducible refine Kd.C_alloc ?_ _) | (with_reducible refine Kd.C_drewN ?_ _) | (with_reducible refine Kd.C_drew ?_))); (case side2 => exact HC2.out); rintro e w' ⟨rfl, ⟨nd, rfl⟩⟩))
          go_meet
          case rel => exact ⟨_, (!t323), (by first | rfl | (simp; done) | (simp [*]; done)), H', ⟨by first | omega | exact Nat.le_refl _⟩, ⟨by repeat (first | (with_reducible first | exact HB.out | apply below_alloc | apply pw_below_drewN | apply below_drew1) | exact HB.out)⟩⟩
        · replace c11 := Bool.eq_false_iff.mpr c11
          subst c11
          have H1 : (plenumlaw13_PriorityJoins.j0 k l0 l1 l2 true) = some r := by rw [if_neg (show ¬ (false = true) by decide)] at H; exact H
          clear H
          have H := H1
          clear H1
          have H' := Aside0.mk H
          clear H
          go_wp2_with (first | ((with_reducible refine gate_callee (f := 11) rfl ?_); refine goesL_ (some 13) rfl rfl Try.func11 (by kernel_rfl) rfl #[.slice A0 l0.length c0] rfl (by (try simp only [List.map_toArray, List.map_cons, List.map_nil]); first | done | rfl | (simp only [List.length_drop, List.length_take]; rfl)) ?_; (with_reducible refine (plenumlaw13_few.calls _ _ l0 true _ ?side1 ?side2 A8.out).mono ?_); (case side1 => repeat (first | exact (Kd.C_below HR0.out HB.out) | (with_reducible refine Kd.C_alloc ?_ _) | (with_reducible refine Kd.C_drewN ?_ _) | (with_reducible refine Kd.C_drew ?_))); (case side2 => exact HC0.out); rintro e w' ⟨rfl, ⟨nd, rfl⟩⟩; refine ⟨_, rfl, ?_⟩) | (go_at_call 11; (with_reducible refine (plenumlaw13_few.calls _ _ l1 false _ ?side1 ?side2 A10.out).mono ?_); (case side1 => repeat (first | exact (Kd.C_below HR1.out (by repeat (first | (with_reducible first | exact HB.out | apply below_alloc | apply pw_below_drewN | apply below_drew1) | exact HB.out))) | (with_reducible refine Kd.C_alloc ?_ _) | (with_reducible refine Kd.C_drewN ?_ _) | (with_reducible refine Kd.C_drew ?_))); (case side2 => exact HC1.out); rintro e w' ⟨rfl, ⟨nd, rfl⟩⟩))
          go_meet
          case rel => exact ⟨_, (true), (by first | rfl | (simp; done) | (simp [*]; done)), H', ⟨by first | omega | exact Nat.le_refl _⟩, ⟨by repeat (first | (with_reducible first | exact HB.out | apply below_alloc | apply pw_below_drewN | apply below_drew1) | exact HB.out)⟩⟩
      · replace c9 := Bool.eq_false_iff.mpr c9
        subst c9
        have H1 : (plenumlaw13_PriorityJoins.j0 k l0 l1 l2 true) = some r := by rw [if_neg (show ¬ (false = true) by decide)] at H; exact H
        clear H
        have H := H1
        clear H1
        have H' := Aside0.mk H
        clear H
        go_wp2_with (first | ((with_reducible refine gate_callee (f := 11) rfl ?_); refine goesL_ (some 13) rfl rfl Try.func11 (by kernel_rfl) rfl #[.slice A0 l0.length c0] rfl (by (try simp only [List.map_toArray, List.map_cons, List.map_nil]); first | done | rfl | (simp only [List.length_drop, List.length_take]; rfl)) ?_; (with_reducible refine (plenumlaw13_few.calls _ _ l0 false _ ?side1 ?side2 A8.out).mono ?_); (case side1 => repeat (first | exact (Kd.C_below HR0.out HB.out) | (with_reducible refine Kd.C_alloc ?_ _) | (with_reducible refine Kd.C_drewN ?_ _) | (with_reducible refine Kd.C_drew ?_))); (case side2 => exact HC0.out); rintro e w' ⟨rfl, ⟨nd, rfl⟩⟩; refine ⟨_, rfl, ?_⟩))
        go_meet
        case rel => exact ⟨_, (true), (by first | rfl | (simp; done) | (simp [*]; done)), H', ⟨by first | omega | exact Nat.le_refl _⟩, ⟨by repeat (first | (with_reducible first | exact HB.out | apply below_alloc | apply pw_below_drewN | apply below_drew1) | exact HB.out)⟩⟩
    case rest =>
      clear HC6
      try clear c1
      try clear c2
      try clear p2
      try clear c5
      try clear c6
      try clear c9
      try clear c10
      try clear c11
      obtain ⟨kq, x24_5, rfl, HA, HJ5, HB⟩ := hcut
      cases kq with
      | zero => exact absurd HA.out (by simp [plenumlaw13_PriorityJoins.j0])
      | succ kj5 =>
        have H := HA.out
        clear HA
        simp only [plenumlaw13_PriorityJoins.j0] at H
        by_cases c13 : x24_5 = true
        · subst c13
          have H1 : (some true) = some r := by rw [if_pos rfl] at H; exact H
          clear H
          have H := H1
          clear H1
          obtain rfl := Option.some.inj H
          go_wp2
          go_ret
          exact ⟨by first | rfl | (simp [errW_none, errW_some] <;> rfl) | (simp [*, errW_none, errW_some] <;> rfl), by repeat (first | (with_reducible first | exact HB.out | apply below_alloc | apply pw_below_drewN | apply below_drew1) | exact HB.out)⟩
        · replace c13 := Bool.eq_false_iff.mpr c13
          subst c13
          have H1 : (plenumlaw13_PriorityJoins.l0 kj5 l0 l1 l2 ([] : List (S25)) (wrap64 ((l0.length : Int) - 1))) = some r := by rw [if_neg (show ¬ (false = true) by decide)] at H; exact H
          clear H
          have H := H1
          clear H1
          have H' := Aside0.mk H
          clear H
          go_wp2
          go_loopg [7, 8] kj5 (fun kq v7 v8 w' => ∃ (x7_2 : List (S25)) (x8_2 : Int), v8 = .int .i64 x8_2 ∧ Aside0 (plenumlaw13_PriorityJoins.l0 kq l0 l1 l2 x7_2 x8_2 = some r) ∧ Aside0 (kq ≤ kj5) ∧ Aside0 (Kd.R k25 25 w' w.heap.size (fun _ => True) v7 x7_2) ∧ Aside0 (Below w.heap.size w w'))
          case atStart => exact ⟨(([] : List (S25))), (wrap64 ((l0.length : Int) - 1)), (by first | rfl | (simp; done) | (simp [*]; done)), H', ⟨Nat.le_refl _⟩, ⟨by first | exact Kd.R_nil _ _ _ _ _ | exact Kd.N_nil _ _ _ _ _ | exact Kd.V_nil _ _ _ _ _ | exact Kd.Q_nil _ _ _ _ _ | exact Kd.S_nil _ _ _ _ _⟩, ⟨by repeat (first | (with_reducible first | exact HB.out | apply below_alloc | apply pw_below_drewN | apply below_drew1) | exact HB.out)⟩⟩
          case round =>
            clear H'
            try clear c1
            try clear c2
            try clear p2
            try clear c5
            try clear c6
            try clear p6
            try clear c9
            try clear c10
            try clear c11
            try clear c13
            try clear p2
            obtain ⟨x7_2, x8_2, rfl, HA, HK2, HO_7, HB⟩ := hrel
            cases gk with
            | zero => exact absurd HA.out (by simp [plenumlaw13_PriorityJoins.l0])
            | succ k2 =>
              have H := HA.out
              clear HA
              simp only [plenumlaw13_PriorityJoins.l0] at H
              by_cases c14 : x8_2 ≥ 0
              · rw [if_pos c14] at H
                have c14b0 : decide (0 ≤ x8_2) = true := decide_eq_true c14
                clear c14
                by_cases c15 : 0 ≤ x8_2
                · rw [if_pos c15] at H
                  have c15b0 : decide (0 ≤ x8_2) = true := decide_eq_true c15
                  clear c15
                  by_cases c16 : x8_2 < (l0.length : Int)
                  · rw [if_pos c16] at H
                    have c16b0 : decide (x8_2 < (l0.length : Int)) = true := decide_eq_true c16
                    clear c16
                    obtain ⟨y326, hy326⟩ : ∃ y_ : List (S25), y_ = (([(⟨(rd_T25 l0 x8_2).f0, (rd_T25 l0 x8_2).f1, (⟨(rd_T25 l0 x8_2).f2.f0, (rd_T25 l0 x8_2).f2.f1⟩ : S23)⟩ : S25), (⟨(rd_T25 l0 x8_2).f0, (rd_T25 l0 x8_2).f1, (⟨(rd_T25 l0 x8_2).f2.f0, (rd_T25 l0 x8_2).f2.f1⟩ : S23)⟩ : S25)] : List (S25))) := ⟨_, rfl⟩
                    replace H : (if x7_2.length + y326.length < 4398046511104 then (plenumlaw13_PriorityJoins.l0 k2 l0 l1 l2 (x7_2 ++ y326) (wrap64 (x8_2 - 1))) else (none)) = some r := by first | (rw [hy326]; with_reducible exact H) | (have H2_ := (Option.bind_some _ _).symm.trans H; rw [hy326]; with_reducible exact H2_) | (have H2_ := (Option.bind_some _ _).symm.trans H; with_reducible exact H2_) | with_reducible exact H | (rw [hy326]; exact H) | exact H
                    have Ny326 := Aside0.mk hy326
                    clear hy326
                    by_cases c17 : x7_2.length + y326.length < 4398046511104
                    · rw [if_pos c17] at H
                      have LMc17 := Aside0.mk c17
                      clear c17
                      obtain ⟨y329, hy329⟩ : ∃ y_ : List (S25), y_ = (x7_2 ++ y326) := ⟨_, rfl⟩
                      replace H : (plenumlaw13_PriorityJoins.l0 k2 l0 l1 l2 y329 (wrap64 (x8_2 - 1))) = some r := by first | (rw [hy329]; with_reducible exact H) | (have H2_ := (Option.bind_some _ _).symm.trans H; rw [hy329]; with_reducible exact H2_) | (have H2_ := (Option.bind_some _ _).symm.trans H; with_reducible exact H2_) | with_reducible exact H | (rw [hy329]; exact H) | exact H
                      have Ny329 := Aside0.mk hy329
                      clear hy329
                      have H' := Aside0.mk H
                      clear H
                      try go_wp2
                      have n0_ := Aside0.mk (Kd.R_drew HO_7.out)
                      have n1_ := Aside0.mk (below_drew1 HB.out)
                      clear HO_7
                      clear HB
                      have HO_7 := n0_
                      have HB := n1_
                      clear n0_ n1_
                      have p324 : 0 ≤ (x8_2 : Int) := of_decide_eq_true (by first | (with_reducible assumption) | assumption)
                      have q324 : x8_2 < (l0.length : Int) := of_decide_eq_true (by first | (with_reducible assumption) | assumption)
                      obtain ⟨ad324, e324, hx324_0, hx324_1, hx324_2, hx324_3⟩ := at_T25 HR0.out x8_2 p324 q324
                      have hw324_3 := hx324_3
                      have hw324_2 := hx324_2
                      have hw324_1 := hx324_1
                      have hw324_0 := hx324_0
                      cases e324
                      replace hx324_0 := (HB.out.cell (World.block_lt_of_cell? w _ hx324_0)).trans hx324_0
                      replace hx324_1 := (HB.out.cell (World.block_lt_of_cell? w _ hx324_1)).trans hx324_1
                      replace hx324_2 := (HB.out.cell (World.block_lt_of_cell? w _ hx324_2)).trans hx324_2
                      replace hx324_3 := (HB.out.cell (World.block_lt_of_cell? w _ hx324_3)).trans hx324_3
                      replace p324 := eq_true p324
                      replace q324 := eq_true q324
                      have p325 : 0 ≤ (x8_2 : Int) := of_decide_eq_true (by first | (with_reducible assumption) | assumption)
                      have q325 : x8_2 < (l0.length : Int) := of_decide_eq_true (by first | (with_reducible assumption) | assumption)
                      obtain ⟨ad325, e325, hx325_0, hx325_1, hx325_2, hx325_3⟩ := at_T25 HR0.out x8_2 p325 q325
                      have hw325_3 := hx325_3
                      have hw325_2 := hx325_2
                      have hw325_1 := hx325_1
                      have hw325_0 := hx325_0
                      obtain rfl : ad324 = ad325 := (by injection e325)
                      replace hx325_0 := (HB.out.cell (World.block_lt_of_cell? w _ hx325_0)).trans hx325_0
                      replace hx325_1 := (HB.out.cell (World.block_lt_of_cell? w _ hx325_1)).trans hx325_1
                      replace hx325_2 := (HB.out.cell (World.block_lt_of_cell? w _ hx325_2)).trans hx325_2
                      replace hx325_3 := (HB.out.cell (World.block_lt_of_cell? w _ hx325_3)).trans hx325_3
                      replace p325 := eq_true p325
                      replace q325 := eq_true q325
                      refine start_ (n := 12) (S := fun w' => w'.cell? (ad324.add ((x8_2).toNat * 4)) = some (.int .i64 ((rd_T25 l0 x8_2).f0)) ∧ w'.cell? ⟨(ad324.add ((x8_2).toNat * 4)).block, (ad324.add ((x8_2).toNat * 4)).off + 1, none⟩ = some (.int .i64 ((rd_T25 l0 x8_2).f1)) ∧ w'.cell? ⟨(ad324.add ((x8_2).toNat * 4)).block, (ad324.add ((x8_2).toNat * 4)).off + 2, none⟩ = some (.int .i64 ((rd_T25 l0 x8_2).f2.f0)) ∧ w'.cell? ⟨(ad324.add ((x8_2).toNat * 4)).block, (ad324.add ((x8_2).toNat * 4)).off + 3, none⟩ = some (.int .i64 ((rd_T25 l0 x8_2).f2.f1)) ∧ w'.cell? (ad324.add ((x8_2).toNat * 4)) = some (.int .i64 ((rd_T25 l0 x8_2).f0)) ∧ w'.cell? ⟨(ad324.add ((x8_2).toNat * 4)).block, (ad324.add ((x8_2).toNat * 4)).off + 1, none⟩ = some (.int .i64 ((rd_T25 l0 x8_2).f1)) ∧ w'.cell? ⟨(ad324.add ((x8_2).toNat * 4)).block, (ad324.add ((x8_2).toNat * 4)).off + 2, none⟩ = some (.int .i64 ((rd_T25 l0 x8_2).f2.f0)) ∧ w'.cell? ⟨(ad324.add ((x8_2).toNat * 4)).block, (ad324.add ((x8_2).toNat * 4)).off + 3, none⟩ = some (.int .i64 ((rd_T25 l0 x8_2).f2.f1))) (ds := []) #[false, false, false, false, false, false, false, false, false, false, false, false] (by kernel_rfl) rfl rfl ⟨((HB.out.cell (World.block_lt_of_cell? w _ hw324_0)).trans hw324_0), ((HB.out.cell (World.block_lt_of_cell? w _ hw324_1)).trans hw324_1), ((HB.out.cell (World.block_lt_of_cell? w _ hw324_2)).trans hw324_2), ((HB.out.cell (World.block_lt_of_cell? w _ hw324_3)).trans hw324_3), ((HB.out.cell (World.block_lt_of_cell? w _ hw325_0)).trans hw325_0), ((HB.out.cell (World.block_lt_of_cell? w _ hw325_1)).trans hw325_1), ((HB.out.cell (World.block_lt_of_cell? w _ hw325_2)).trans hw325_2), ((HB.out.cell (World.block_lt_of_cell? w _ hw325_3)).trans hw325_3)⟩ (fun hHeld => ?_); refine with_tabW plenumlaw13_PriorityJoins.tab9 plenumlaw13_PriorityJoins.bits9 (fun HT_ HW_ => ?_)
                      generalize wr.drew = w18 at HO_7 HB hx324_0 hx324_1 hx324_2 hx324_3 hx325_0 hx325_1 hx325_2 hx325_3 hHeld ⊢
                      refine pure_ (i := 0) (N := some 32) (v := ?_) (a' := ?_) #[true, false, false, false, false, false, false, false, false, false, false, false] rfl rfl (any_of HT_.out (by kernel_rfl)) (fun _ _ _ h => h) (Or.inl ⟨by rfl, ?_⟩) ?_ ?_
                      rotate_left
                      · intro w'
                        go_simp
                        with_reducible rfl
                      rotate_left
                      · simp only [Act.put, List.setIfInBounds_toArray, List.set_cons_zero, List.set_cons_succ, i64_w, i32_w]
                        rfl
                      refine pure_ (i := 1) (N := some 33) (v := ?_) (a' := ?_) #[true, true, false, false, false, false, false, false, false, false, false, false] rfl rfl (any_of HT_.out (by kernel_rfl)) (fun _ _ _ h => h) (Or.inl ⟨by rfl, ?_⟩) ?_ ?_
                      rotate_left
                      · intro w'
                        go_simp
                        with_reducible rfl
                      rotate_left
                      · simp only [Act.put, List.setIfInBounds_toArray, List.set_cons_zero, List.set_cons_succ, i64_w, i32_w]
                        rfl
                      refine pure_ (i := 2) (N := some 34) (v := ?_) (a' := ?_) #[true, true, true, false, false, false, false, false, false, false, false, false] rfl rfl (any_of HT_.out (by kernel_rfl)) (fun _ _ _ h => h) (Or.inl ⟨by rfl, ?_⟩) ?_ ?_
                      rotate_left
                      · intro w'
                        go_simp
                        with_reducible rfl
                      rotate_left
                      · simp only [Act.put, List.setIfInBounds_toArray, List.set_cons_zero, List.set_cons_succ, i64_w, i32_w]
                        rfl
                      refine pure_ (i := 3) (N := some 35) (v := ?_) (a' := ?_) #[true, true, true, true, false, false, false, false, false, false, false, false] rfl rfl (any_of HT_.out (by kernel_rfl)) (fun _ _ _ h => h) (Or.inl ⟨by rfl, ?_⟩) ?_ ?_
                      rotate_left
                      · intro w'
                        go_simp
                        with_reducible rfl
                      rotate_left
                      · simp only [Act.put, List.setIfInBounds_toArray, List.set_cons_zero, List.set_cons_succ, i64_w, i32_w]
                        rfl
                      refine pure_ (i := 5) (N := some 37) (v := ?_) (a' := ?_) #[true, true, true, true, false, true, false, false, false, false, false, false] rfl rfl (any_of HT_.out (by kernel_rfl)) (fun _ _ _ h => h) (Or.inl ⟨by rfl, ?_⟩) ?_ ?_
                      rotate_left
                      · intro w'
                        go_simp
                        with_reducible rfl
                      rotate_left
                      · simp only [Act.put, List.setIfInBounds_toArray, List.set_cons_zero, List.set_cons_succ, i64_w, i32_w]
                        rfl
                      refine pure_ (i := 6) (N := some 38) (v := ?_) (a' := ?_) #[true, true, true, true, false, true, true, false, false, false, false, false] rfl rfl (any_of HT_.out (by kernel_rfl)) (fun _ _ _ h => h) (Or.inl ⟨by rfl, ?_⟩) ?_ ?_
                      rotate_left
                      · intro w'
                        go_simp
                        with_reducible rfl
                      rotate_left
                      · simp only [Act.put, List.setIfInBounds_toArray, List.set_cons_zero, List.set_cons_succ, i64_w, i32_w]
                        rfl
                      refine pure_ (i := 7) (N := some 39) (v := ?_) (a' := ?_) #[true, true, true, true, false, true, true, true, false, false, false, false] rfl rfl (any_of HT_.out (by kernel_rfl)) (fun _ _ _ h => h) (Or.inl ⟨by rfl, ?_⟩) ?_ ?_
                      rotate_left
                      · intro w'
                        go_simp
                        with_reducible rfl
                      rotate_left
                      · simp only [Act.put, List.setIfInBounds_toArray, List.set_cons_zero, List.set_cons_succ, i64_w, i32_w]
                        rfl
                      refine take_ (i := 4) (N := some 36) (v := ?_) (a' := ?_) #[true, true, true, true, true, true, true, true, false, false, false, false] rfl rfl (take_ofW HT_.out HW_.out (by kernel_rfl)) (fun _ _ _ h => h) (Or.inl ⟨by rfl, ?_⟩) hHeld ?_ ?_
                      rotate_left
                      · rintro w' ⟨s0, s1, s2, s3, s4, s5, s6, s7⟩
                        go_simp
                        with_reducible rfl
                      rotate_left
                      · simp only [Act.put, List.setIfInBounds_toArray, List.set_cons_zero, List.set_cons_succ, i64_w, i32_w]
                        rfl
                      refine take_ (i := 8) (N := some 40) (v := ?_) (a' := ?_) #[true, true, true, true, true, true, true, true, true, false, false, false] rfl rfl (take_ofW HT_.out HW_.out (by kernel_rfl)) (fun _ _ _ h => h) (Or.inl ⟨by rfl, ?_⟩) hHeld ?_ ?_
                      rotate_left
                      · rintro w' ⟨s0, s1, s2, s3, s4, s5, s6, s7⟩
                        go_simp
                        with_reducible rfl
                      rotate_left
                      · simp only [Act.put, List.setIfInBounds_toArray, List.set_cons_zero, List.set_cons_succ, i64_w, i32_w]
                        rfl
                      refine one_ (i := 9) (N := some 41) #[true, true, true, true, true, true, true, true, true, true, false, false] rfl rfl (one_of HT_.out (by kernel_rfl)) (by decide) (fun K hK => ?_)
                      refine Kd.R_lit_step k25 _ 25 ?hg (N := 41) ?hd (xs := ([(⟨(rd_T25 l0 x8_2).f0, (rd_T25 l0 x8_2).f1, (⟨(rd_T25 l0 x8_2).f2.f0, (rd_T25 l0 x8_2).f2.f1⟩ : S23)⟩ : S25), (⟨(rd_T25 l0 x8_2).f0, (rd_T25 l0 x8_2).f1, (⟨(rd_T25 l0 x8_2).f2.f0, (rd_T25 l0 x8_2).f2.f1⟩ : S23)⟩ : S25)] : List (S25))) (inner := [.int .i64 ((rd_T25 l0 x8_2).f0), .int .i64 ((rd_T25 l0 x8_2).f1), .int .i64 ((rd_T25 l0 x8_2).f2.f0), .int .i64 ((rd_T25 l0 x8_2).f2.f1), .int .i64 ((rd_T25 l0 x8_2).f0), .int .i64 ((rd_T25 l0 x8_2).f1), .int .i64 ((rd_T25 l0 x8_2).f2.f0), .int .i64 ((rd_T25 l0 x8_2).f2.f1)]) (ok := fun _ => True) (okp := fun _ => True) ?hr ?hp (fun _ hk => hk) trivial (Below.refl _ _) (Nat.le_refl _) (by simp) ?_; (case hd => rfl); (case hg => rfl); (case hr => first | (go_simp; done) | (go_simp; rfl)); (case hp => exact (Reps.c4 (show Kd.M k25 _ _ _ (⟨(rd_T25 l0 x8_2).f0, (rd_T25 l0 x8_2).f1, (⟨(rd_T25 l0 x8_2).f2.f0, (rd_T25 l0 x8_2).f2.f1⟩ : S23)⟩ : S25) [.int .i64 ((rd_T25 l0 x8_2).f0), .int .i64 ((rd_T25 l0 x8_2).f1), .int .i64 ((rd_T25 l0 x8_2).f2.f0), .int .i64 ((rd_T25 l0 x8_2).f2.f1)] from (k25_mkM _ _ _ (⟨(rd_T25 l0 x8_2).f0, (rd_T25 l0 x8_2).f1, (⟨(rd_T25 l0 x8_2).f2.f0, (rd_T25 l0 x8_2).f2.f1⟩ : S23)⟩ : S25) )) (Reps.c4 (show Kd.M k25 _ _ _ (⟨(rd_T25 l0 x8_2).f0, (rd_T25 l0 x8_2).f1, (⟨(rd_T25 l0 x8_2).f2.f0, (rd_T25 l0 x8_2).f2.f1⟩ : S23)⟩ : S25) [.int .i64 ((rd_T25 l0 x8_2).f0), .int .i64 ((rd_T25 l0 x8_2).f1), .int .i64 ((rd_T25 l0 x8_2).f2.f0), .int .i64 ((rd_T25 l0 x8_2).f2.f1)] from (k25_mkM _ _ _ (⟨(rd_T25 l0 x8_2).f0, (rd_T25 l0 x8_2).f1, (⟨(rd_T25 l0 x8_2).f2.f0, (rd_T25 l0 x8_2).f2.f1⟩ : S23)⟩ : S25) )) (Reps.none _ _))))
                      intro v327 w19 ho20 hb hg_ hnew_
                      clear hg_ hnew_
                      (first | rw [← Ny326.out] at ho20 | (simp only [Int.reduceToNat] at ho20; rw [← Ny326.out] at ho20))
                      have n0_ := Aside0.mk (Kd.R_elder' (by (with_reducible repeat (first | apply Kd.R_alloc | apply Kd.R_drewN | apply Kd.R_drew)); exact HO_7.out) (Kd.R_base ho20) hb)
                      have n1_ := Aside0.mk (Kd.R_lower (Kd.R_new' ho20 (Kd.R_lt (by (with_reducible repeat (first | apply Kd.R_alloc | apply Kd.R_drewN | apply Kd.R_drew)); exact HO_7.out))) (below_size (by repeat (first | (with_reducible first | exact HB.out | apply below_alloc | apply pw_below_drewN | apply below_drew1) | exact HB.out))))
                      have n2_ := Aside0.mk (below_step (by repeat (first | (with_reducible first | exact HB.out | apply below_alloc | apply pw_below_drewN | apply below_drew1) | exact HB.out)) hb)
                      clear HO_7
                      clear HB
                      have HO_7 := n0_
                      have HO328 := n1_
                      have HB := n2_
                      clear n0_ n1_ n2_
                      clear hb ho20
                      obtain ⟨Ao22, co22, eo22⟩ := Kd.R_slice HO328.out
                      (first | subst eo22 | (injection eo22 with f1_ f2_ f3_; have f4_ := f1_.symm; have f5_ := f3_.symm; clear f1_ f2_ f3_; subst f4_; subst f5_))
                      refine hK.out _ _ ⟨((HB.out.cell (World.block_lt_of_cell? w _ hw324_0)).trans hw324_0), ((HB.out.cell (World.block_lt_of_cell? w _ hw324_1)).trans hw324_1), ((HB.out.cell (World.block_lt_of_cell? w _ hw324_2)).trans hw324_2), ((HB.out.cell (World.block_lt_of_cell? w _ hw324_3)).trans hw324_3), ((HB.out.cell (World.block_lt_of_cell? w _ hw325_0)).trans hw325_0), ((HB.out.cell (World.block_lt_of_cell? w _ hw325_1)).trans hw325_1), ((HB.out.cell (World.block_lt_of_cell? w _ hw325_2)).trans hw325_2), ((HB.out.cell (World.block_lt_of_cell? w _ hw325_3)).trans hw325_3)⟩ (fun hHeld => ?_)
                      clear hK K
                      refine norm_ (a' := ?_) ?_ ?_
                      rotate_left
                      · show Act.put _ (some 41) _ = _
                        simp only [Act.put, List.setIfInBounds_toArray, List.set_cons_zero, List.set_cons_succ, i64_w, i32_w]
                        rfl
                      refine one_ (i := 10) (N := some 42) #[true, true, true, true, true, true, true, true, true, true, true, false] rfl rfl (one_of HT_.out (by kernel_rfl)) (by decide) (fun K hK => ?_)
                      refine Kd.R_append_rows_step k25 (w0 := w) w.heap.size (by rfl) (.tmp 32) (.tmp 41) 26 25 (.agg #[(.int .i64 0), (.int .i64 0), (.int .i64 0), (.int .i64 0)]) 32 rfl Try.underlying26 info25 rfl (by decide) (by omega) u7 x7_2 y326 _ _ _ (fun k_ => some k_ ≠ (.slice Ao22 y326.length co22 : Value).ownBlock) (fun _ => False) rfl rfl ?aO ?aR (fun _ _ h => h) (fun _ h => h.elim) ?aF ?aB ?aS ?aL ?_
                      (case aR => repeat (first | exact (Kd.R_reads' HO328.out).2.2 | (with_reducible refine Kd.C_alloc ?_ _) | (with_reducible refine Kd.C_drewN ?_ _) | (with_reducible refine Kd.C_drew ?_)))
                      (case aB => exact (by repeat (first | (with_reducible first | exact HB.out | apply below_alloc | apply pw_below_drewN | apply below_drew1) | exact HB.out)))
                      (case aF => exact (fun k_ hk => Kd.fresh' (Kd.R_lt (by (with_reducible repeat (first | apply Kd.R_alloc | apply Kd.R_drewN | apply Kd.R_drew)); exact HO328.out)) k_ hk))
                      (case aO => exact (by (with_reducible repeat (first | apply Kd.R_alloc | apply Kd.R_drewN | apply Kd.R_drew)); exact Kd.R_mono HO_7.out (fun _ hk => hk.2)))
                      (case aS => exact (below_size (by repeat (first | (with_reducible first | exact HB.out | apply below_alloc | apply pw_below_drewN | apply below_drew1) | exact HB.out))))
                      (case aL => have := LMc17.out; first | omega | (simp only [ByteArray.size, List.size_toArray, List.length_cons, List.length_nil] at this ⊢; omega))
                      intro v330 w21 ho hb hg hat
                      rw [← Ny329.out] at ho
                      have n0_ := Aside0.mk (Kd.R_after (ok := (fun _ => True)) (by (with_reducible repeat (first | apply Kd.R_alloc | apply Kd.R_drewN | apply Kd.R_drew)); exact HO328.out) hg hat)
                      have n1_ := Aside0.mk (hb)
                      have n2_ := Aside0.mk (ho)
                      clear HO328
                      clear HB
                      clear HO_7
                      have HO328 := n0_
                      have HB := n1_
                      have HO331 := n2_
                      clear n0_ n1_ n2_
                      clear ho hb hg hat
                      refine hK.out _ _ ⟨((HB.out.cell (World.block_lt_of_cell? w _ hw324_0)).trans hw324_0), ((HB.out.cell (World.block_lt_of_cell? w _ hw324_1)).trans hw324_1), ((HB.out.cell (World.block_lt_of_cell? w _ hw324_2)).trans hw324_2), ((HB.out.cell (World.block_lt_of_cell? w _ hw324_3)).trans hw324_3), ((HB.out.cell (World.block_lt_of_cell? w _ hw325_0)).trans hw325_0), ((HB.out.cell (World.block_lt_of_cell? w _ hw325_1)).trans hw325_1), ((HB.out.cell (World.block_lt_of_cell? w _ hw325_2)).trans hw325_2), ((HB.out.cell (World.block_lt_of_cell? w _ hw325_3)).trans hw325_3)⟩ (fun hHeld => ?_)
                      clear hK K
                      refine norm_ (a' := ?_) ?_ ?_
                      rotate_left
                      · show Act.put _ (some 42) _ = _
                        simp only [Act.put, List.setIfInBounds_toArray, List.set_cons_zero, List.set_cons_succ, i64_w, i32_w]
                        rfl
                      refine pure_ (i := 11) (N := some 7) (v := ?_) (a' := ?_) #[true, true, true, true, true, true, true, true, true, true, true, true] rfl rfl (any_of HT_.out (by kernel_rfl)) (fun _ _ _ h => h) (Or.inl ⟨by rfl, ?_⟩) ?_ ?_
                      rotate_left
                      · intro w'
                        go_simp
                        with_reducible rfl
                      rotate_left
                      · simp only [Act.put, List.setIfInBounds_toArray, List.set_cons_zero, List.set_cons_succ, i64_w, i32_w]
                        rfl
                      refine done_ (done_of HT_.out (by kernel_rfl)) ?_
                      try go_wp2
                      go_roundg k2
                      case measure => have := HJ5.out; have := HK2.out; omega
                      case rel => exact ⟨(y329), (wrap64 (x8_2 - 1)), (by first | rfl | (simp; done) | (simp [*]; done)), H', ⟨by have := HJ5.out; have := HK2.out; omega⟩, ⟨by (with_reducible repeat (first | apply Kd.R_alloc | apply Kd.R_drewN | apply Kd.R_drew)); exact Kd.R_mono HO331.out (fun _ hk => trivial)⟩, ⟨by repeat (first | (with_reducible first | exact HB.out | apply below_alloc | apply pw_below_drewN | apply below_drew1) | exact HB.out)⟩⟩
                    · rw [if_neg c17] at H
                      exact absurd H (by simp)
                  · rw [if_neg c16] at H
                    exact absurd H (by simp)
                · rw [if_neg c15] at H
                  exact absurd H (by simp)
              · rw [if_neg c14] at H
                have c14b0 : decide (0 ≤ x8_2) = false := decide_eq_false c14
                clear c14
                replace H := Option.bind_eq_some_iff.mp H
                obtain ⟨t332, A230, H⟩ := H
                replace H : ((priority_Join.f l1 l0).bind fun t335 => ((plenumref13_Same.f k2 t332 t335).bind fun t338 => (if t338 = true then ((priority_Join.f t332 l2).bind fun t339 => ((priority_Join.f l1 l2).bind fun t342 => ((priority_Join.f l0 t342).bind fun t345 => ((plenumref13_Same.f k2 t339 t345).bind fun t348 => (if t348 = true then ((priority_Join.f t332 t332).bind fun t349 => ((plenumref13_Same.f k2 t349 t332).bind fun t352 => (if t352 = true then ((priority_Of.f t332).bind fun t353 => ((plenumref13_Same.f k2 t353 t332).bind fun t356 => (if t356 = true then ((priority_Of.f x7_2).bind fun t357 => ((priority_Of.f l0).bind fun t360 => ((plenumref13_Same.f k2 t357 t360).bind fun t363 => (some t363)))) else (none)))) else (none)))) else (none)))))) else (none)))) = some r := H
                have A23 := Aside0.mk A230
                clear A230
                replace H := Option.bind_eq_some_iff.mp H
                obtain ⟨t335, A240, H⟩ := H
                replace H : ((plenumref13_Same.f k2 t332 t335).bind fun t338 => (if t338 = true then ((priority_Join.f t332 l2).bind fun t339 => ((priority_Join.f l1 l2).bind fun t342 => ((priority_Join.f l0 t342).bind fun t345 => ((plenumref13_Same.f k2 t339 t345).bind fun t348 => (if t348 = true then ((priority_Join.f t332 t332).bind fun t349 => ((plenumref13_Same.f k2 t349 t332).bind fun t352 => (if t352 = true then ((priority_Of.f t332).bind fun t353 => ((plenumref13_Same.f k2 t353 t332).bind fun t356 => (if t356 = true then ((priority_Of.f x7_2).bind fun t357 => ((priority_Of.f l0).bind fun t360 => ((plenumref13_Same.f k2 t357 t360).bind fun t363 => (some t363)))) else (none)))) else (none)))) else (none)))))) else (none))) = some r := H
                have A24 := Aside0.mk A240
                clear A240
                replace H := Option.bind_eq_some_iff.mp H
                obtain ⟨t338, A250, H⟩ := H
                replace H : (if t338 = true then ((priority_Join.f t332 l2).bind fun t339 => ((priority_Join.f l1 l2).bind fun t342 => ((priority_Join.f l0 t342).bind fun t345 => ((plenumref13_Same.f k2 t339 t345).bind fun t348 => (if t348 = true then ((priority_Join.f t332 t332).bind fun t349 => ((plenumref13_Same.f k2 t349 t332).bind fun t352 => (if t352 = true then ((priority_Of.f t332).bind fun t353 => ((plenumref13_Same.f k2 t353 t332).bind fun t356 => (if t356 = true then ((priority_Of.f x7_2).bind fun t357 => ((priority_Of.f l0).bind fun t360 => ((plenumref13_Same.f k2 t357 t360).bind fun t363 => (some t363)))) else (none)))) else (none)))) else (none)))))) else (none)) = some r := H
                have A25 := Aside0.mk A250
                clear A250
                by_cases c26 : t338 = true
                · subst c26
                  have H1 : ((priority_Join.f t332 l2).bind fun t339 => ((priority_Join.f l1 l2).bind fun t342 => ((priority_Join.f l0 t342).bind fun t345 => ((plenumref13_Same.f k2 t339 t345).bind fun t348 => (if t348 = true then ((priority_Join.f t332 t332).bind fun t349 => ((plenumref13_Same.f k2 t349 t332).bind fun t352 => (if t352 = true then ((priority_Of.f t332).bind fun t353 => ((plenumref13_Same.f k2 t353 t332).bind fun t356 => (if t356 = true then ((priority_Of.f x7_2).bind fun t357 => ((priority_Of.f l0).bind fun t360 => ((plenumref13_Same.f k2 t357 t360).bind fun t363 => (some t363)))) else (none)))) else (none)))) else (none)))))) = some r := by rw [if_pos rfl] at H; exact H
                  clear H
                  have H := H1
                  clear H1
                  replace H := Option.bind_eq_some_iff.mp H
                  obtain ⟨t339, A270, H⟩ := H
                  replace H : ((priority_Join.f l1 l2).bind fun t342 => ((priority_Join.f l0 t342).bind fun t345 => ((plenumref13_Same.f k2 t339 t345).bind fun t348 => (if t348 = true then ((priority_Join.f t332 t332).bind fun t349 => ((plenumref13_Same.f k2 t349 t332).bind fun t352 => (if t352 = true then ((priority_Of.f t332).bind fun t353 => ((plenumref13_Same.f k2 t353 t332).bind fun t356 => (if t356 = true then ((priority_Of.f x7_2).bind fun t357 => ((priority_Of.f l0).bind fun t360 => ((plenumref13_Same.f k2 t357 t360).bind fun t363 => (some t363)))) else (none)))) else (none)))) else (none))))) = some r := H
                  have A27 := Aside0.mk A270
                  clear A270
                  replace H := Option.bind_eq_some_iff.mp H
                  obtain ⟨t342, A280, H⟩ := H
                  replace H : ((priority_Join.f l0 t342).bind fun t345 => ((plenumref13_Same.f k2 t339 t345).bind fun t348 => (if t348 = true then ((priority_Join.f t332 t332).bind fun t349 => ((plenumref13_Same.f k2 t349 t332).bind fun t352 => (if t352 = true then ((priority_Of.f t332).bind fun t353 => ((plenumref13_Same.f k2 t353 t332).bind fun t356 => (if t356 = true then ((priority_Of.f x7_2).bind fun t357 => ((priority_Of.f l0).bind fun t360 => ((plenumref13_Same.f k2 t357 t360).bind fun t363 => (some t363)))) else (none)))) else (none)))) else (none)))) = some r := H
                  have A28 := Aside0.mk A280
                  clear A280
                  replace H := Option.bind_eq_some_iff.mp H
                  obtain ⟨t345, A290, H⟩ := H
                  replace H : ((plenumref13_Same.f k2 t339 t345).bind fun t348 => (if t348 = true then ((priority_Join.f t332 t332).bind fun t349 => ((plenumref13_Same.f k2 t349 t332).bind fun t352 => (if t352 = true then ((priority_Of.f t332).bind fun t353 => ((plenumref13_Same.f k2 t353 t332).bind fun t356 => (if t356 = true then ((priority_Of.f x7_2).bind fun t357 => ((priority_Of.f l0).bind fun t360 => ((plenumref13_Same.f k2 t357 t360).bind fun t363 => (some t363)))) else (none)))) else (none)))) else (none))) = some r := H
                  have A29 := Aside0.mk A290
                  clear A290
                  replace H := Option.bind_eq_some_iff.mp H
                  obtain ⟨t348, A300, H⟩ := H
                  replace H : (if t348 = true then ((priority_Join.f t332 t332).bind fun t349 => ((plenumref13_Same.f k2 t349 t332).bind fun t352 => (if t352 = true then ((priority_Of.f t332).bind fun t353 => ((plenumref13_Same.f k2 t353 t332).bind fun t356 => (if t356 = true then ((priority_Of.f x7_2).bind fun t357 => ((priority_Of.f l0).bind fun t360 => ((plenumref13_Same.f k2 t357 t360).bind fun t363 => (some t363)))) else (none)))) else (none)))) else (none)) = some r := H
                  have A30 := Aside0.mk A300
                  clear A300
                  by_cases c31 : t348 = true
                  · subst c31
                    have H1 : ((priority_Join.f t332 t332).bind fun t349 => ((plenumref13_Same.f k2 t349 t332).bind fun t352 => (if t352 = true then ((priority_Of.f t332).bind fun t353 => ((plenumref13_Same.f k2 t353 t332).bind fun t356 => (if t356 = true then ((priority_Of.f x7_2).bind fun t357 => ((priority_Of.f l0).bind fun t360 => ((plenumref13_Same.f k2 t357 t360).bind fun t363 => (some t363)))) else (none)))) else (none)))) = some r := by rw [if_pos rfl] at H; exact H
                    clear H
                    have H := H1
                    clear H1
                    replace H := Option.bind_eq_some_iff.mp H
                    obtain ⟨t349, A320, H⟩ := H
                    replace H : ((plenumref13_Same.f k2 t349 t332).bind fun t352 => (if t352 = true then ((priority_Of.f t332).bind fun t353 => ((plenumref13_Same.f k2 t353 t332).bind fun t356 => (if t356 = true then ((priority_Of.f x7_2).bind fun t357 => ((priority_Of.f l0).bind fun t360 => ((plenumref13_Same.f k2 t357 t360).bind fun t363 => (some t363)))) else (none)))) else (none))) = some r := H
                    have A32 := Aside0.mk A320
                    clear A320
                    replace H := Option.bind_eq_some_iff.mp H
                    obtain ⟨t352, A330, H⟩ := H
                    replace H : (if t352 = true then ((priority_Of.f t332).bind fun t353 => ((plenumref13_Same.f k2 t353 t332).bind fun t356 => (if t356 = true then ((priority_Of.f x7_2).bind fun t357 => ((priority_Of.f l0).bind fun t360 => ((plenumref13_Same.f k2 t357 t360).bind fun t363 => (some t363)))) else (none)))) else (none)) = some r := H
                    have A33 := Aside0.mk A330
                    clear A330
                    by_cases c34 : t352 = true
                    · subst c34
                      have H1 : ((priority_Of.f t332).bind fun t353 => ((plenumref13_Same.f k2 t353 t332).bind fun t356 => (if t356 = true then ((priority_Of.f x7_2).bind fun t357 => ((priority_Of.f l0).bind fun t360 => ((plenumref13_Same.f k2 t357 t360).bind fun t363 => (some t363)))) else (none)))) = some r := by rw [if_pos rfl] at H; exact H
                      clear H
                      have H := H1
                      clear H1
                      replace H := Option.bind_eq_some_iff.mp H
                      obtain ⟨t353, A350, H⟩ := H
                      replace H : ((plenumref13_Same.f k2 t353 t332).bind fun t356 => (if t356 = true then ((priority_Of.f x7_2).bind fun t357 => ((priority_Of.f l0).bind fun t360 => ((plenumref13_Same.f k2 t357 t360).bind fun t363 => (some t363)))) else (none))) = some r := H
                      have A35 := Aside0.mk A350
                      clear A350
                      replace H := Option.bind_eq_some_iff.mp H
                      obtain ⟨t356, A360, H⟩ := H
                      replace H : (if t356 = true then ((priority_Of.f x7_2).bind fun t357 => ((priority_Of.f l0).bind fun t360 => ((plenumref13_Same.f k2 t357 t360).bind fun t363 => (some t363)))) else (none)) = some r := H
                      have A36 := Aside0.mk A360
                      clear A360
                      by_cases c37 : t356 = true
                      · subst c37
                        have H1 : ((priority_Of.f x7_2).bind fun t357 => ((priority_Of.f l0).bind fun t360 => ((plenumref13_Same.f k2 t357 t360).bind fun t363 => (some t363)))) = some r := by rw [if_pos rfl] at H; exact H
                        clear H
                        have H := H1
                        clear H1
                        replace H := Option.bind_eq_some_iff.mp H
                        obtain ⟨t357, A380, H⟩ := H
                        replace H : ((priority_Of.f l0).bind fun t360 => ((plenumref13_Same.f k2 t357 t360).bind fun t363 => (some t363))) = some r := H
                        have A38 := Aside0.mk A380
                        clear A380
                        replace H := Option.bind_eq_some_iff.mp H
                        obtain ⟨t360, A390, H⟩ := H
                        replace H : ((plenumref13_Same.f k2 t357 t360).bind fun t363 => (some t363)) = some r := H
                        have A39 := Aside0.mk A390
                        clear A390
                        replace H := Option.bind_eq_some_iff.mp H
                        obtain ⟨t363, A400, H⟩ := H
                        replace H : (some t363) = some r := H
                        have A40 := Aside0.mk A400
                        clear A400
                        obtain rfl := Option.some.inj H
                        go_wp2_with (first | ((with_reducible refine gate_callee (f := 17) rfl ?_); refine goesL_ (some 45) rfl rfl Try.func17 (by kernel_rfl) rfl #[.slice A0 l0.length c0, .slice A1 l1.length c1] rfl (by (try simp only [List.map_toArray, List.map_cons, List.map_nil]); first | done | rfl | (simp only [List.length_drop, List.length_take]; rfl)) ?_; (with_reducible refine (priority_Join.calls _ _ l0 _ _ l1 t332 _ ?side1 ?side2 ?side3 ?side4 A23.out).mono ?_); (case side1 => repeat (first | exact (Kd.C_below HR0.out HB.out) | (with_reducible refine Kd.C_alloc ?_ _) | (with_reducible refine Kd.C_drewN ?_ _) | (with_reducible refine Kd.C_drew ?_))); (case side2 => exact HC0.out); (case side3 => repeat (first | exact (Kd.C_below HR1.out HB.out) | (with_reducible refine Kd.C_alloc ?_ _) | (with_reducible refine Kd.C_drewN ?_ _) | (with_reducible refine Kd.C_drew ?_))); (case side4 => exact HC1.out); rintro e w41 ⟨v333, rfl, ho0, hb⟩; refine ⟨_, rfl, ?_⟩; have n0_ := Aside0.mk (Kd.R_elder' (by (with_reducible repeat (first | apply Kd.R_alloc | apply Kd.R_drewN | apply Kd.R_drew)); exact HO_7.out) (Kd.R_base ho0) hb); have n1_ := Aside0.mk (Kd.R_lower (Kd.R_new' ho0 (Kd.R_lt (by (with_reducible repeat (first | apply Kd.R_alloc | apply Kd.R_drewN | apply Kd.R_drew)); exact HO_7.out))) (below_size (by repeat (first | (with_reducible first | exact HB.out | apply below_alloc | apply pw_below_drewN | apply below_drew1) | exact HB.out)))); have n2_ := Aside0.mk (below_step (by repeat (first | (with_reducible first | exact HB.out | apply below_alloc | apply pw_below_drewN | apply below_drew1) | exact HB.out)) hb); clear HO_7; clear HB; have HO_7 := n0_; have HO334 := n1_; have HB := n2_; clear n0_ n1_ n2_; (try clear hb); (try clear hb2); (try clear hk); (try clear hi); (try clear ho0)) | ((with_reducible refine gate_callee (f := 17) rfl ?_); refine goesL_ (some 49) rfl rfl Try.func17 (by kernel_rfl) rfl #[.slice A1 l1.length c1, .slice A0 l0.length c0] rfl (by (try simp only [List.map_toArray, List.map_cons, List.map_nil]); first | done | rfl | (simp only [List.length_drop, List.length_take]; rfl)) ?_; (with_reducible refine (priority_Join.calls _ _ l1 _ _ l0 t335 _ ?side1 ?side2 ?side3 ?side4 A24.out).mono ?_); (case side1 => repeat (first | exact (Kd.C_below HR1.out HB.out) | (with_reducible refine Kd.C_alloc ?_ _) | (with_reducible refine Kd.C_drewN ?_ _) | (with_reducible refine Kd.C_drew ?_))); (case side2 => exact HC1.out); (case side3 => repeat (first | exact (Kd.C_below HR0.out HB.out) | (with_reducible refine Kd.C_alloc ?_ _) | (with_reducible refine Kd.C_drewN ?_ _) | (with_reducible refine Kd.C_drew ?_))); (case side4 => exact HC0.out); rintro e w42 ⟨v336, rfl, ho0, hb⟩; refine ⟨_, rfl, ?_⟩; have n0_ := Aside0.mk (Kd.R_elder' (by (with_reducible repeat (first | apply Kd.R_alloc | apply Kd.R_drewN | apply Kd.R_drew)); exact HO_7.out) (Kd.R_base ho0) hb); have n1_ := Aside0.mk (Kd.R_elder' (by (with_reducible repeat (first | apply Kd.R_alloc | apply Kd.R_drewN | apply Kd.R_drew)); exact HO334.out) (Kd.R_base ho0) hb); have n2_ := Aside0.mk (Kd.R_lower (Kd.R_new' (Kd.R_new' ho0 (Kd.R_lt (by (with_reducible repeat (first | apply Kd.R_alloc | apply Kd.R_drewN | apply Kd.R_drew)); exact HO_7.out))) (Kd.R_lt (by (with_reducible repeat (first | apply Kd.R_alloc | apply Kd.R_drewN | apply Kd.R_drew)); exact HO334.out))) (below_size (by repeat (first | (with_reducible first | exact HB.out | apply below_alloc | apply pw_below_drewN | apply below_drew1) | exact HB.out)))); have n3_ := Aside0.mk (below_step (by repeat (first | (with_reducible first | exact HB.out | apply below_alloc | apply pw_below_drewN | apply below_drew1) | exact HB.out)) hb); clear HO_7; clear HO334; clear HB; have HO_7 := n0_; have HO334 := n1_; have HO337 := n2_; have HB := n3_; clear n0_ n1_ n2_ n3_; (try clear hb); (try clear hb2); (try clear hk); (try clear hi); (try clear ho0); obtain ⟨Ao43, co43, eo43⟩ := Kd.R_slice HO334.out; subst eo43; obtain ⟨Ao44, co44, eo44⟩ := Kd.R_slice HO337.out; subst eo44) | ((with_reducible refine gate_callee (f := 14) rfl ?_); refine goesL_ (some 50) rfl rfl Try.func14 (by kernel_rfl) rfl #[.slice Ao43 t332.length co43, .slice Ao44 t335.length co44] rfl (by (try simp only [List.map_toArray, List.map_cons, List.map_nil]); first | done | rfl | (simp only [List.length_drop, List.length_take]; rfl)) ?_; (with_reducible refine (plenumref13_Same.calls k2 _ _ t332 _ _ t335 true _ ?side1 ?side2 ?side3 ?side4 A25.out).mono ?_); (case side1 => repeat (first | exact (Kd.R_reads' HO334.out).2.2 | (with_reducible refine Kd.C_alloc ?_ _) | (with_reducible refine Kd.C_drewN ?_ _) | (with_reducible refine Kd.C_drew ?_))); (case side2 => exact (Kd.R_reads' HO334.out).2.1); (case side3 => repeat (first | exact (Kd.R_reads' HO337.out).2.2 | (with_reducible refine Kd.C_alloc ?_ _) | (with_reducible refine Kd.C_drewN ?_ _) | (with_reducible refine Kd.C_drew ?_))); (case side4 => exact (Kd.R_reads' HO337.out).2.1); rintro e w' ⟨rfl, ⟨nd, rfl⟩⟩; refine ⟨_, rfl, ?_⟩) | (go_at_call 17; (with_reducible refine (priority_Join.calls _ _ t332 _ _ l2 t339 _ ?side1 ?side2 ?side3 ?side4 A27.out).mono ?_); (case side1 => repeat (first | exact (Kd.R_reads' HO334.out).2.2 | (with_reducible refine Kd.C_alloc ?_ _) | (with_reducible refine Kd.C_drewN ?_ _) | (with_reducible refine Kd.C_drew ?_))); (case side2 => exact (Kd.R_reads' HO334.out).2.1); (case side3 => repeat (first | exact (Kd.C_below HR2.out (by repeat (first | (with_reducible first | exact HB.out | apply below_alloc | apply pw_below_drewN | apply below_drew1) | exact HB.out))) | (with_reducible refine Kd.C_alloc ?_ _) | (with_reducible refine Kd.C_drewN ?_ _) | (with_reducible refine Kd.C_drew ?_))); (case side4 => exact HC2.out); rintro e w45 ⟨v340, rfl, ho0, hb⟩; have n0_ := Aside0.mk (Kd.R_elder' (by (with_reducible repeat (first | apply Kd.R_alloc | apply Kd.R_drewN | apply Kd.R_drew)); exact HO_7.out) (Kd.R_base ho0) hb); have n1_ := Aside0.mk (Kd.R_elder' (by (with_reducible repeat (first | apply Kd.R_alloc | apply Kd.R_drewN | apply Kd.R_drew)); exact HO334.out) (Kd.R_base ho0) hb); have n2_ := Aside0.mk (Kd.R_elder' (by (with_reducible repeat (first | apply Kd.R_alloc | apply Kd.R_drewN | apply Kd.R_drew)); exact HO337.out) (Kd.R_base ho0) hb); have n3_ := Aside0.mk (Kd.R_lower (Kd.R_new' (Kd.R_new' (Kd.R_new' ho0 (Kd.R_lt (by (with_reducible repeat (first | apply Kd.R_alloc | apply Kd.R_drewN | apply Kd.R_drew)); exact HO_7.out))) (Kd.R_lt (by (with_reducible repeat (first | apply Kd.R_alloc | apply Kd.R_drewN | apply Kd.R_drew)); exact HO334.out))) (Kd.R_lt (by (with_reducible repeat (first | apply Kd.R_alloc | apply Kd.R_drewN | apply Kd.R_drew)); exact HO337.out))) (below_size (by repeat (first | (with_reducible first | exact HB.out | apply below_alloc | apply pw_below_drewN | apply below_drew1) | exact HB.out)))); have n4_ := Aside0.mk (below_step (by repeat (first | (with_reducible first | exact HB.out | apply below_alloc | apply pw_below_drewN | apply below_drew1) | exact HB.out)) hb); clear HO_7; clear HO334; clear HO337; clear HB; have HO_7 := n0_; have HO334 := n1_; have HO337 := n2_; have HO341 := n3_; have HB := n4_; clear n0_ n1_ n2_ n3_ n4_; (try clear hb); (try clear hb2); (try clear hk); (try clear hi); (try clear ho0)) | (go_at_call 17; (with_reducible refine (priority_Join.calls _ _ l1 _ _ l2 t342 _ ?side1 ?side2 ?side3 ?side4 A28.out).mono ?_); (case side1 => repeat (first | exact (Kd.C_below HR1.out HB.out) | (with_reducible refine Kd.C_alloc ?_ _) | (with_reducible refine Kd.C_drewN ?_ _) | (with_reducible refine Kd.C_drew ?_))); (case side2 => exact HC1.out); (case side3 => repeat (first | exact (Kd.C_below HR2.out HB.out) | (with_reducible refine Kd.C_alloc ?_ _) | (with_reducible refine Kd.C_drewN ?_ _) | (with_reducible refine Kd.C_drew ?_))); (case side4 => exact HC2.out); rintro e w46 ⟨v343, rfl, ho0, hb⟩; have n0_ := Aside0.mk (Kd.R_elder' (by (with_reducible repeat (first | apply Kd.R_alloc | apply Kd.R_drewN | apply Kd.R_drew)); exact HO_7.out) (Kd.R_base ho0) hb); have n1_ := Aside0.mk (Kd.R_elder' (by (with_reducible repeat (first | apply Kd.R_alloc | apply Kd.R_drewN | apply Kd.R_drew)); exact HO334.out) (Kd.R_base ho0) hb); have n2_ := Aside0.mk (Kd.R_elder' (by (with_reducible repeat (first | apply Kd.R_alloc | apply Kd.R_drewN | apply Kd.R_drew)); exact HO337.out) (Kd.R_base ho0) hb); have n3_ := Aside0.mk (Kd.R_elder' (by (with_reducible repeat (first | apply Kd.R_alloc | apply Kd.R_drewN | apply Kd.R_drew)); exact HO341.out) (Kd.R_base ho0) hb); have n4_ := Aside0.mk (Kd.R_lower (Kd.R_new' (Kd.R_new' (Kd.R_new' (Kd.R_new' ho0 (Kd.R_lt (by (with_reducible repeat (first | apply Kd.R_alloc | apply Kd.R_drewN | apply Kd.R_drew)); exact HO_7.out))) (Kd.R_lt (by (with_reducible repeat (first | apply Kd.R_alloc | apply Kd.R_drewN | apply Kd.R_drew)); exact HO334.out))) (Kd.R_lt (by (with_reducible repeat (first | apply Kd.R_alloc | apply Kd.R_drewN | apply Kd.R_drew)); exact HO337.out))) (Kd.R_lt (by (with_reducible repeat (first | apply Kd.R_alloc | apply Kd.R_drewN | apply Kd.R_drew)); exact HO341.out))) (below_size (by repeat (first | (with_reducible first | exact HB.out | apply below_alloc | apply pw_below_drewN | apply below_drew1) | exact HB.out)))); have n5_ := Aside0.mk (below_step (by repeat (first | (with_reducible first | exact HB.out | apply below_alloc | apply pw_below_drewN | apply below_drew1) | exact HB.out)) hb); clear HO_7; clear HO334; clear HO337; clear HO341; clear HB; have HO_7 := n0_; have HO334 := n1_; have HO337 := n2_; have HO341 := n3_; have HO344 := n4_; have HB := n5_; clear n0_ n1_ n2_ n3_ n4_ n5_; (try clear hb); (try clear hb2); (try clear hk); (try clear hi); (try clear ho0); obtain ⟨Ao47, co47, eo47⟩ := Kd.R_slice HO344.out; subst eo47) | (go_at_call 17; (with_reducible refine (priority_Join.calls _ _ l0 _ _ t342 t345 _ ?side1 ?side2 ?side3 ?side4 A29.out).mono ?_); (case side1 => repeat (first | exact (Kd.C_below HR0.out HB.out) | (with_reducible refine Kd.C_alloc ?_ _) | (with_reducible refine Kd.C_drewN ?_ _) | (with_reducible refine Kd.C_drew ?_))); (case side2 => exact HC0.out); (case side3 => repeat (first | exact (Kd.R_reads' HO344.out).2.2 | (with_reducible refine Kd.C_alloc ?_ _) | (with_reducible refine Kd.C_drewN ?_ _) | (with_reducible refine Kd.C_drew ?_))); (case side4 => exact (Kd.R_reads' HO344.out).2.1); rintro e w48 ⟨v346, rfl, ho0, hb⟩; have n0_ := Aside0.mk (Kd.R_elder' (by (with_reducible repeat (first | apply Kd.R_alloc | apply Kd.R_drewN | apply Kd.R_drew)); exact HO_7.out) (Kd.R_base ho0) hb); have n1_ := Aside0.mk (Kd.R_elder' (by (with_reducible repeat (first | apply Kd.R_alloc | apply Kd.R_drewN | apply Kd.R_drew)); exact HO334.out) (Kd.R_base ho0) hb); have n2_ := Aside0.mk (Kd.R_elder' (by (with_reducible repeat (first | apply Kd.R_alloc | apply Kd.R_drewN | apply Kd.R_drew)); exact HO337.out) (Kd.R_base ho0) hb); have n3_ := Aside0.mk (Kd.R_elder' (by (with_reducible repeat (first | apply Kd.R_alloc | apply Kd.R_drewN | apply Kd.R_drew)); exact HO341.out) (Kd.R_base ho0) hb); have n4_ := Aside0.mk (Kd.R_elder' (by (with_reducible repeat (first | apply Kd.R_alloc | apply Kd.R_drewN | apply Kd.R_drew)); exact HO344.out) (Kd.R_base ho0) hb); have n5_ := Aside0.mk (Kd.R_lower (Kd.R_new' (Kd.R_new' (Kd.R_new' (Kd.R_new' (Kd.R_new' ho0 (Kd.R_lt (by (with_reducible repeat (first | apply Kd.R_alloc | apply Kd.R_drewN | apply Kd.R_drew)); exact HO_7.out))) (Kd.R_lt (by (with_reducible repeat (first | apply Kd.R_alloc | apply Kd.R_drewN | apply Kd.R_drew)); exact HO334.out))) (Kd.R_lt (by (with_reducible repeat (first | apply Kd.R_alloc | apply Kd.R_drewN | apply Kd.R_drew)); exact HO337.out))) (Kd.R_lt (by (with_reducible repeat (first | apply Kd.R_alloc | apply Kd.R_drewN | apply Kd.R_drew)); exact HO341.out))) (Kd.R_lt (by (with_reducible repeat (first | apply Kd.R_alloc | apply Kd.R_drewN | apply Kd.R_drew)); exact HO344.out))) (below_size (by repeat (first | (with_reducible first | exact HB.out | apply below_alloc | apply pw_below_drewN | apply below_drew1) | exact HB.out)))); have n6_ := Aside0.mk (below_step (by repeat (first | (with_reducible first | exact HB.out | apply below_alloc | apply pw_below_drewN | apply below_drew1) | exact HB.out)) hb); clear HO_7; clear HO334; clear HO337; clear HO341; clear HO344; clear HB; have HO_7 := n0_; have HO334 := n1_; have HO337 := n2_; have HO341 := n3_; have HO344 := n4_; have HO347 := n5_; have HB := n6_; clear n0_ n1_ n2_ n3_ n4_ n5_ n6_; (try clear hb); (try clear hb2); (try clear hk); (try clear hi); (try clear ho0); obtain ⟨Ao49, co49, eo49⟩ := Kd.R_slice HO341.out; subst eo49; obtain ⟨Ao50, co50, eo50⟩ := Kd.R_slice HO347.out; subst eo50) | (go_at_call 14; (with_reducible refine (plenumref13_Same.calls k2 _ _ t339 _ _ t345 true _ ?side1 ?side2 ?side3 ?side4 A30.out).mono ?_); (case side1 => repeat (first | exact (Kd.R_reads' HO341.out).2.2 | (with_reducible refine Kd.C_alloc ?_ _) | (with_reducible refine Kd.C_drewN ?_ _) | (with_reducible refine Kd.C_drew ?_))); (case side2 => exact (Kd.R_reads' HO341.out).2.1); (case side3 => repeat (first | exact (Kd.R_reads' HO347.out).2.2 | (with_reducible refine Kd.C_alloc ?_ _) | (with_reducible refine Kd.C_drewN ?_ _) | (with_reducible refine Kd.C_drew ?_))); (case side4 => exact (Kd.R_reads' HO347.out).2.1); rintro e w' ⟨rfl, ⟨nd, rfl⟩⟩) | (go_at_call 17; (with_reducible refine (priority_Join.calls _ _ t332 _ _ t332 t349 _ ?side1 ?side2 ?side3 ?side4 A32.out).mono ?_); (case side1 => repeat (first | exact (Kd.R_reads' HO334.out).2.2 | (with_reducible refine Kd.C_alloc ?_ _) | (with_reducible refine Kd.C_drewN ?_ _) | (with_reducible refine Kd.C_drew ?_))); (case side2 => exact (Kd.R_reads' HO334.out).2.1); (case side3 => repeat (first | exact (Kd.R_reads' HO334.out).2.2 | (with_reducible refine Kd.C_alloc ?_ _) | (with_reducible refine Kd.C_drewN ?_ _) | (with_reducible refine Kd.C_drew ?_))); (case side4 => exact (Kd.R_reads' HO334.out).2.1); rintro e w51 ⟨v350, rfl, ho0, hb⟩; have n0_ := Aside0.mk (Kd.R_elder' (by (with_reducible repeat (first | apply Kd.R_alloc | apply Kd.R_drewN | apply Kd.R_drew)); exact HO_7.out) (Kd.R_base ho0) hb); have n1_ := Aside0.mk (Kd.R_elder' (by (with_reducible repeat (first | apply Kd.R_alloc | apply Kd.R_drewN | apply Kd.R_drew)); exact HO334.out) (Kd.R_base ho0) hb); have n2_ := Aside0.mk (Kd.R_elder' (by (with_reducible repeat (first | apply Kd.R_alloc | apply Kd.R_drewN | apply Kd.R_drew)); exact HO337.out) (Kd.R_base ho0) hb); have n3_ := Aside0.mk (Kd.R_elder' (by (with_reducible repeat (first | apply Kd.R_alloc | apply Kd.R_drewN | apply Kd.R_drew)); exact HO341.out) (Kd.R_base ho0) hb); have n4_ := Aside0.mk (Kd.R_elder' (by (with_reducible repeat (first | apply Kd.R_alloc | apply Kd.R_drewN | apply Kd.R_drew)); exact HO344.out) (Kd.R_base ho0) hb); have n5_ := Aside0.mk (Kd.R_elder' (by (with_reducible repeat (first | apply Kd.R_alloc | apply Kd.R_drewN | apply Kd.R_drew)); exact HO347.out) (Kd.R_base ho0) hb); have n6_ := Aside0.mk (Kd.R_lower (Kd.R_new' (Kd.R_new' (Kd.R_new' (Kd.R_new' (Kd.R_new' (Kd.R_new' ho0 (Kd.R_lt (by (with_reducible repeat (first | apply Kd.R_alloc | apply Kd.R_drewN | apply Kd.R_drew)); exact HO_7.out))) (Kd.R_lt (by (with_reducible repeat (first | apply Kd.R_alloc | apply Kd.R_drewN | apply Kd.R_drew)); exact HO334.out))) (Kd.R_lt (by (with_reducible repeat (first | apply Kd.R_alloc | apply Kd.R_drewN | apply Kd.R_drew)); exact HO337.out))) (Kd.R_lt (by (with_reducible repeat (first | apply Kd.R_alloc | apply Kd.R_drewN | apply Kd.R_drew)); exact HO341.out))) (Kd.R_lt (by (with_reducible repeat (first | apply Kd.R_alloc | apply Kd.R_drewN | apply Kd.R_drew)); exact HO344.out))) (Kd.R_lt (by (with_reducible repeat (first | apply Kd.R_alloc | apply Kd.R_drewN | apply Kd.R_drew)); exact HO347.out))) (below_size (by repeat (first | (with_reducible first | exact HB.out | apply below_alloc | apply pw_below_drewN | apply below_drew1) | exact HB.out)))); have n7_ := Aside0.mk (below_step (by repeat (first | (with_reducible first | exact HB.out | apply below_alloc | apply pw_below_drewN | apply below_drew1) | exact HB.out)) hb); clear HO_7; clear HO334; clear HO337; clear HO341; clear HO344; clear HO347; clear HB; have HO_7 := n0_; have HO334 := n1_; have HO337 := n2_; have HO341 := n3_; have HO344 := n4_; have HO347 := n5_; have HO351 := n6_; have HB := n7_; clear n0_ n1_ n2_ n3_ n4_ n5_ n6_ n7_; (try clear hb); (try clear hb2); (try clear hk); (try clear hi); (try clear ho0); obtain ⟨Ao52, co52, eo52⟩ := Kd.R_slice HO351.out; subst eo52) | (go_at_call 14; (with_reducible refine (plenumref13_Same.calls k2 _ _ t349 _ _ t332 true _ ?side1 ?side2 ?side3 ?side4 A33.out).mono ?_); (case side1 => repeat (first | exact (Kd.R_reads' HO351.out).2.2 | (with_reducible refine Kd.C_alloc ?_ _) | (with_reducible refine Kd.C_drewN ?_ _) | (with_reducible refine Kd.C_drew ?_))); (case side2 => exact (Kd.R_reads' HO351.out).2.1); (case side3 => repeat (first | exact (Kd.R_reads' HO334.out).2.2 | (with_reducible refine Kd.C_alloc ?_ _) | (with_reducible refine Kd.C_drewN ?_ _) | (with_reducible refine Kd.C_drew ?_))); (case side4 => exact (Kd.R_reads' HO334.out).2.1); rintro e w' ⟨rfl, ⟨nd, rfl⟩⟩) | (go_at_call 15; (with_reducible refine (priority_Of.calls _ _ t332 t353 _ ?side1 ?side2 A35.out).mono ?_); (case side1 => repeat (first | exact (Kd.R_reads' HO334.out).2.2 | (with_reducible refine Kd.C_alloc ?_ _) | (with_reducible refine Kd.C_drewN ?_ _) | (with_reducible refine Kd.C_drew ?_))); (case side2 => exact (Kd.R_reads' HO334.out).2.1); rintro e w53 ⟨v354, rfl, ho0, hb⟩; have n0_ := Aside0.mk (Kd.R_elder' (by (with_reducible repeat (first | apply Kd.R_alloc | apply Kd.R_drewN | apply Kd.R_drew)); exact HO_7.out) (Kd.R_base ho0) hb); have n1_ := Aside0.mk (Kd.R_elder' (by (with_reducible repeat (first | apply Kd.R_alloc | apply Kd.R_drewN | apply Kd.R_drew)); exact HO334.out) (Kd.R_base ho0) hb); have n2_ := Aside0.mk (Kd.R_elder' (by (with_reducible repeat (first | apply Kd.R_alloc | apply Kd.R_drewN | apply Kd.R_drew)); exact HO337.out) (Kd.R_base ho0) hb); have n3_ := Aside0.mk (Kd.R_elder' (by (with_reducible repeat (first | apply Kd.R_alloc | apply Kd.R_drewN | apply Kd.R_drew)); exact HO341.out) (Kd.R_base ho0) hb); have n4_ := Aside0.mk (Kd.R_elder' (by (with_reducible repeat (first | apply Kd.R_alloc | apply Kd.R_drewN | apply Kd.R_drew)); exact HO344.out) (Kd.R_base ho0) hb); have n5_ := Aside0.mk (Kd.R_elder' (by (with_reducible repeat (first | apply Kd.R_alloc | apply Kd.R_drewN | apply Kd.R_drew)); exact HO347.out) (Kd.R_base ho0) hb); have n6_ := Aside0.mk (Kd.R_elder' (by (with_reducible repeat (first | apply Kd.R_alloc | apply Kd.R_drewN | apply Kd.R_drew)); exact HO351.out) (Kd.R_base ho0) hb); have n7_ := Aside0.mk (Kd.R_lower (Kd.R_new' (Kd.R_new' (Kd.R_new' (Kd.R_new' (Kd.R_new' (Kd.R_new' (Kd.R_new' ho0 (Kd.R_lt (by (with_reducible repeat (first | apply Kd.R_alloc | apply Kd.R_drewN | apply Kd.R_drew)); exact HO_7.out))) (Kd.R_lt (by (with_reducible repeat (first | apply Kd.R_alloc | apply Kd.R_drewN | apply Kd.R_drew)); exact HO334.out))) (Kd.R_lt (by (with_reducible repeat (first | apply Kd.R_alloc | apply Kd.R_drewN | apply Kd.R_drew)); exact HO337.out))) (Kd.R_lt (by (with_reducible repeat (first | apply Kd.R_alloc | apply Kd.R_drewN | apply Kd.R_drew)); exact HO341.out))) (Kd.R_lt (by (with_reducible repeat (first | apply Kd.R_alloc | apply Kd.R_drewN | apply Kd.R_drew)); exact HO344.out))) (Kd.R_lt (by (with_reducible repeat (first | apply Kd.R_alloc | apply Kd.R_drewN | apply Kd.R_drew)); exact HO347.out))) (Kd.R_lt (by (with_reducible repeat (first | apply Kd.R_alloc | apply Kd.R_drewN | apply Kd.R_drew)); exact HO351.out))) (below_size (by repeat (first | (with_reducible first | exact HB.out | apply below_alloc | apply pw_below_drewN | apply below_drew1) | exact HB.out)))); have n8_ := Aside0.mk (below_step (by repeat (first | (with_reducible first | exact HB.out | apply below_alloc | apply pw_below_drewN | apply below_drew1) | exact HB.out)) hb); clear HO_7; clear HO334; clear HO337; clear HO341; clear HO344; clear HO347; clear HO351; clear HB; have HO_7 := n0_; have HO334 := n1_; have HO337 := n2_; have HO341 := n3_; have HO344 := n4_; have HO347 := n5_; have HO351 := n6_; have HO355 := n7_; have HB := n8_; clear n0_ n1_ n2_ n3_ n4_ n5_ n6_ n7_ n8_; (try clear hb); (try clear hb2); (try clear hk); (try clear hi); (try clear ho0); obtain ⟨Ao54, co54, eo54⟩ := Kd.R_slice HO355.out; subst eo54) | (go_at_call 14; (with_reducible refine (plenumref13_Same.calls k2 _ _ t353 _ _ t332 true _ ?side1 ?side2 ?side3 ?side4 A36.out).mono ?_); (case side1 => repeat (first | exact (Kd.R_reads' HO355.out).2.2 | (with_reducible refine Kd.C_alloc ?_ _) | (with_reducible refine Kd.C_drewN ?_ _) | (with_reducible refine Kd.C_drew ?_))); (case side2 => exact (Kd.R_reads' HO355.out).2.1); (case side3 => repeat (first | exact (Kd.R_reads' HO334.out).2.2 | (with_reducible refine Kd.C_alloc ?_ _) | (with_reducible refine Kd.C_drewN ?_ _) | (with_reducible refine Kd.C_drew ?_))); (case side4 => exact (Kd.R_reads' HO334.out).2.1); rintro e w' ⟨rfl, ⟨nd, rfl⟩⟩; obtain ⟨Ao55, co55, eo55⟩ := Kd.R_slice HO_7.out; subst eo55) | (go_at_call 15; (with_reducible refine (priority_Of.calls _ _ x7_2 t357 _ ?side1 ?side2 A38.out).mono ?_); (case side1 => repeat (first | exact (Kd.R_reads' HO_7.out).2.2 | (with_reducible refine Kd.C_alloc ?_ _) | (with_reducible refine Kd.C_drewN ?_ _) | (with_reducible refine Kd.C_drew ?_))); (case side2 => exact (Kd.R_reads' HO_7.out).2.1); rintro e w56 ⟨v358, rfl, ho0, hb⟩; have n0_ := Aside0.mk (Kd.R_elder' (by (with_reducible repeat (first | apply Kd.R_alloc | apply Kd.R_drewN | apply Kd.R_drew)); exact HO_7.out) (Kd.R_base ho0) hb); have n1_ := Aside0.mk (Kd.R_elder' (by (with_reducible repeat (first | apply Kd.R_alloc | apply Kd.R_drewN | apply Kd.R_drew)); exact HO334.out) (Kd.R_base ho0) hb); have n2_ := Aside0.mk (Kd.R_elder' (by (with_reducible repeat (first | apply Kd.R_alloc | apply Kd.R_drewN | apply Kd.R_drew)); exact HO337.out) (Kd.R_base ho0) hb); have n3_ := Aside0.mk (Kd.R_elder' (by (with_reducible repeat (first | apply Kd.R_alloc | apply Kd.R_drewN | apply Kd.R_drew)); exact HO341.out) (Kd.R_base ho0) hb); have n4_ := Aside0.mk (Kd.R_elder' (by (with_reducible repeat (first | apply Kd.R_alloc | apply Kd.R_drewN | apply Kd.R_drew)); exact HO344.out) (Kd.R_base ho0) hb); have n5_ := Aside0.mk (Kd.R_elder' (by (with_reducible repeat (first | apply Kd.R_alloc | apply Kd.R_drewN | apply Kd.R_drew)); exact HO347.out) (Kd.R_base ho0) hb); have n6_ := Aside0.mk (Kd.R_elder' (by (with_reducible repeat (first | apply Kd.R_alloc | apply Kd.R_drewN | apply Kd.R_drew)); exact HO351.out) (Kd.R_base ho0) hb); have n7_ := Aside0.mk (Kd.R_elder' (by (with_reducible repeat (first | apply Kd.R_alloc | apply Kd.R_drewN | apply Kd.R_drew)); exact HO355.out) (Kd.R_base ho0) hb); have n8_ := Aside0.mk (Kd.R_lower (Kd.R_new' (Kd.R_new' (Kd.R_new' (Kd.R_new' (Kd.R_new' (Kd.R_new' (Kd.R_new' (Kd.R_new' ho0 (Kd.R_lt (by (with_reducible repeat (first | apply Kd.R_alloc | apply Kd.R_drewN | apply Kd.R_drew)); exact HO_7.out))) (Kd.R_lt (by (with_reducible repeat (first | apply Kd.R_alloc | apply Kd.R_drewN | apply Kd.R_drew)); exact HO334.out))) (Kd.R_lt (by (with_reducible repeat (first | apply Kd.R_alloc | apply Kd.R_drewN | apply Kd.R_drew)); exact HO337.out))) (Kd.R_lt (by (with_reducible repeat (first | apply Kd.R_alloc | apply Kd.R_drewN | apply Kd.R_drew)); exact HO341.out))) (Kd.R_lt (by (with_reducible repeat (first | apply Kd.R_alloc | apply Kd.R_drewN | apply Kd.R_drew)); exact HO344.out))) (Kd.R_lt (by (with_reducible repeat (first | apply Kd.R_alloc | apply Kd.R_drewN | apply Kd.R_drew)); exact HO347.out))) (Kd.R_lt (by (with_reducible repeat (first | apply Kd.R_alloc | apply Kd.R_drewN | apply Kd.R_drew)); exact HO351.out))) (Kd.R_lt (by (with_reducible repeat (first | apply Kd.R_alloc | apply Kd.R_drewN | apply Kd.R_drew)); exact HO355.out))) (below_size (by repeat (first | (with_reducible first | exact HB.out | apply below_alloc | apply pw_below_drewN | apply below_drew1) | exact HB.out)))); have n9_ := Aside0.mk (below_step (by repeat (first | (with_reducible first | exact HB.out | apply below_alloc | apply pw_below_drewN | apply below_drew1) | exact HB.out)) hb); clear HO_7; clear HO334; clear HO337; clear HO341; clear HO344; clear HO347; clear HO351; clear HO355; clear HB; have HO_7 := n0_; have HO334 := n1_; have HO337 := n2_; have HO341 := n3_; have HO344 := n4_; have HO347 := n5_; have HO351 := n6_; have HO355 := n7_; have HO359 := n8_; have HB := n9_; clear n0_ n1_ n2_ n3_ n4_ n5_ n6_ n7_ n8_ n9_; (try clear hb); (try clear hb2); (try clear hk); (try clear hi); (try clear ho0)) | (go_at_call 15; (with_reducible refine (priority_Of.calls _ _ l0 t360 _ ?side1 ?side2 A39.out).mono ?_); (case side1 => repeat (first | exact (Kd.C_below HR0.out HB.out) | (with_reducible refine Kd.C_alloc ?_ _) | (with_reducible refine Kd.C_drewN ?_ _) | (with_reducible refine Kd.C_drew ?_))); (case side2 => exact HC0.out); rintro e w57 ⟨v361, rfl, ho0, hb⟩; have n0_ := Aside0.mk (Kd.R_elder' (by (with_reducible repeat (first | apply Kd.R_alloc | apply Kd.R_drewN | apply Kd.R_drew)); exact HO_7.out) (Kd.R_base ho0) hb); have n1_ := Aside0.mk (Kd.R_elder' (by (with_reducible repeat (first | apply Kd.R_alloc | apply Kd.R_drewN | apply Kd.R_drew)); exact HO334.out) (Kd.R_base ho0) hb); have n2_ := Aside0.mk (Kd.R_elder' (by (with_reducible repeat (first | apply Kd.R_alloc | apply Kd.R_drewN | apply Kd.R_drew)); exact HO337.out) (Kd.R_base ho0) hb); have n3_ := Aside0.mk (Kd.R_elder' (by (with_reducible repeat (first | apply Kd.R_alloc | apply Kd.R_drewN | apply Kd.R_drew)); exact HO341.out) (Kd.R_base ho0) hb); have n4_ := Aside0.mk (Kd.R_elder' (by (with_reducible repeat (first | apply Kd.R_alloc | apply Kd.R_drewN | apply Kd.R_drew)); exact HO344.out) (Kd.R_base ho0) hb); have n5_ := Aside0.mk (Kd.R_elder' (by (with_reducible repeat (first | apply Kd.R_alloc | apply Kd.R_drewN | apply Kd.R_drew)); exact HO347.out) (Kd.R_base ho0) hb); have n6_ := Aside0.mk (Kd.R_elder' (by (with_reducible repeat (first | apply Kd.R_alloc | apply Kd.R_drewN | apply Kd.R_drew)); exact HO351.out) (Kd.R_base ho0) hb); have n7_ := Aside0.mk (Kd.R_elder' (by (with_reducible repeat (first | apply Kd.R_alloc | apply Kd.R_drewN | apply Kd.R_drew)); exact HO355.out) (Kd.R_base ho0) hb); have n8_ := Aside0.mk (Kd.R_elder' (by (with_reducible repeat (first | apply Kd.R_alloc | apply Kd.R_drewN | apply Kd.R_drew)); exact HO359.out) (Kd.R_base ho0) hb); have n9_ := Aside0.mk (Kd.R_lower (Kd.R_new' (Kd.R_new' (Kd.R_new' (Kd.R_new' (Kd.R_new' (Kd.R_new' (Kd.R_new' (Kd.R_new' (Kd.R_new' ho0 (Kd.R_lt (by (with_reducible repeat (first | apply Kd.R_alloc | apply Kd.R_drewN | apply Kd.R_drew)); exact HO_7.out))) (Kd.R_lt (by (with_reducible repeat (first | apply Kd.R_alloc | apply Kd.R_drewN | apply Kd.R_drew)); exact HO334.out))) (Kd.R_lt (by (with_reducible repeat (first | apply Kd.R_alloc | apply Kd.R_drewN | apply Kd.R_drew)); exact HO337.out))) (Kd.R_lt (by (with_reducible repeat (first | apply Kd.R_alloc | apply Kd.R_drewN | apply Kd.R_drew)); exact HO341.out))) (Kd.R_lt (by (with_reducible repeat (first | apply Kd.R_alloc | apply Kd.R_drewN | apply Kd.R_drew)); exact HO344.out))) (Kd.R_lt (by (with_reducible repeat (first | apply Kd.R_alloc | apply Kd.R_drewN | apply Kd.R_drew)); exact HO347.out))) (Kd.R_lt (by (with_reducible repeat (first | apply Kd.R_alloc | apply Kd.R_drewN | apply Kd.R_drew)); exact HO351.out))) (Kd.R_lt (by (with_reducible repeat (first | apply Kd.R_alloc | apply Kd.R_drewN | apply Kd.R_drew)); exact HO355.out))) (Kd.R_lt (by (with_reducible repeat (first | apply Kd.R_alloc | apply Kd.R_drewN | apply Kd.R_drew)); exact HO359.out))) (below_size (by repeat (first | (with_reducible first | exact HB.out | apply below_alloc | apply pw_below_drewN | apply below_drew1) | exact HB.out)))); have n10_ := Aside0.mk (below_step (by repeat (first | (with_reducible first | exact HB.out | apply below_alloc | apply pw_below_drewN | apply below_drew1) | exact HB.out)) hb); clear HO_7; clear HO334; clear HO337; clear HO341; clear HO344; clear HO347; clear HO351; clear HO355; clear HO359; clear HB; have HO_7 := n0_; have HO334 := n1_; have HO337 := n2_; have HO341 := n3_; have HO344 := n4_; have HO347 := n5_; have HO351 := n6_; have HO355 := n7_; have HO359 := n8_; have HO362 := n9_; have HB := n10_; clear n0_ n1_ n2_ n3_ n4_ n5_ n6_ n7_ n8_ n9_ n10_; (try clear hb); (try clear hb2); (try clear hk); (try clear hi); (try clear ho0); obtain ⟨Ao58, co58, eo58⟩ := Kd.R_slice HO359.out; subst eo58; obtain ⟨Ao59, co59, eo59⟩ := Kd.R_slice HO362.out; subst eo59) | (go_at_call 14; (with_reducible refine (plenumref13_Same.calls k2 _ _ t357 _ _ t360 t363 _ ?side1 ?side2 ?side3 ?side4 A40.out).mono ?_); (case side1 => repeat (first | exact (Kd.R_reads' HO359.out).2.2 | (with_reducible refine Kd.C_alloc ?_ _) | (with_reducible refine Kd.C_drewN ?_ _) | (with_reducible refine Kd.C_drew ?_))); (case side2 => exact (Kd.R_reads' HO359.out).2.1); (case side3 => repeat (first | exact (Kd.R_reads' HO362.out).2.2 | (with_reducible refine Kd.C_alloc ?_ _) | (with_reducible refine Kd.C_drewN ?_ _) | (with_reducible refine Kd.C_drew ?_))); (case side4 => exact (Kd.R_reads' HO362.out).2.1); rintro e w' ⟨rfl, ⟨nd, rfl⟩⟩))
                        go_ret
                        exact ⟨by first | rfl | (simp [errW_none, errW_some] <;> rfl) | (simp [*, errW_none, errW_some] <;> rfl), by repeat (first | (with_reducible first | exact HB.out | apply below_alloc | apply pw_below_drewN | apply below_drew1) | exact HB.out)⟩
                      · replace c37 := Bool.eq_false_iff.mpr c37
                        subst c37
                        have H1 : (none) = some r := by rw [if_neg (show ¬ (false = true) by decide)] at H; exact H
                        clear H
                        have H := H1
                        clear H1
                        exact absurd H (by simp)
                    · replace c34 := Bool.eq_false_iff.mpr c34
                      subst c34
                      have H1 : (none) = some r := by rw [if_neg (show ¬ (false = true) by decide)] at H; exact H
                      clear H
                      have H := H1
                      clear H1
                      exact absurd H (by simp)
                  · replace c31 := Bool.eq_false_iff.mpr c31
                    subst c31
                    have H1 : (none) = some r := by rw [if_neg (show ¬ (false = true) by decide)] at H; exact H
                    clear H
                    have H := H1
                    clear H1
                    exact absurd H (by simp)
                · replace c26 := Bool.eq_false_iff.mpr c26
                  subst c26
                  have H1 : (none) = some r := by rw [if_neg (show ¬ (false = true) by decide)] at H; exact H
                  clear H
                  have H := H1
                  clear H1
                  exact absurd H (by simp)
  · replace c5 := Bool.eq_false_iff.mpr c5
    subst c5
    have H1 : (none) = some r := by rw [if_neg (show ¬ (false = true) by decide)] at H; exact H
    clear H
    have H := H1
    clear H1
    exact absurd H (by simp)
end Go.Proofs.Ytejidnmgjccidaa.R
end
section
namespace Go.Proofs.Ytejidnmgjccidaa.Opn
open Go.RowKit Go.Proofs.YtejidnmgjccidaaW.PrintWords
def Opn (P : Program) (t : TypeId) {α : Type} (d : Kd α) (V : α → Prop) : Prop :=
  ∀ (H : Type) (enc : TypeId × Value → H) (w : World) (fuel : Nat) (cs : List Value) (x : DataW H × List MemPlace),
    DataW.trod enc P w 0 (fun _ => true) true fuel t cs = some x → (∀ n ∈ DataW.weights P t x.1, n ≤ 140737488351232) → ∃ y, d.K w y cs ∧ V y
theorem opn_int {P : Program} {t : TypeId} {k : IntKind} (ht : P.underlying t = some (.int k)) : Opn P t (Kd.int k) (fun y => (Lit.int k y).wf = true) := by
  intro H enc w fuel cs x h _
  obtain ⟨n, rfl, _, hw⟩ := DataW.trod_int ht h
  exact ⟨n, rfl, hw⟩
theorem weights_all {H : Type} {P : Program} {e : TypeId} {d : DataW H} {n : Nat} (hn : n ∈ DataW.weights P e d) : ∀ {l : List (DataW H)}, d ∈ l → n ∈ DataW.weightsAll P e l
  | [], h => by simp at h
  | a :: r, h => by
    simp only [DataW.weightsAll, List.mem_append]
    rcases List.mem_cons.1 h with rfl | h
    · exact .inl hn
    · exact .inr (weights_all hn h)
theorem list_of {α : Type} (Q : Nat → α → Prop) : ∀ n, (∀ i, i < n → ∃ y, Q i y) → ∃ l : List α, l.length = n ∧ ∀ i y, l[i]? = some y → Q i y
  | 0, _ => ⟨[], rfl, fun i y h => by simp at h⟩
  | n + 1, h => by
    obtain ⟨l, hl, hq⟩ := list_of Q n (fun i hi => h i (by omega))
    obtain ⟨y, hy⟩ := h n (by omega)
    refine ⟨l ++ [y], by simp [hl], fun i z hz => ?_⟩
    rcases Nat.lt_or_ge i n with hi | hi
    · rw [List.getElem?_append_left (by omega)] at hz
      exact hq i z hz
    · have : i = n := by
        have := (List.getElem?_eq_some_iff.1 hz).1
        simp [hl] at this
        omega
      subst this
      rw [List.getElem?_append_right (by omega), hl, Nat.sub_self] at hz
      simp at hz
      subst hz
      exact hy
theorem opn_slice {P : Program} {t e : TypeId} {α : Type} {d : Kd α} {V : α → Prop} {B : Nat} (ht : P.underlying t = some (.slice e)) (hs : P.cellsOf e = d.sz) (hB : P.bytesOf e = B) (he : Opn P e d V) :
    Opn P t (Kd.slice e d) (fun xs => xs.length * B ≤ 140737488351232 ∧ ∀ x ∈ xs, V x) := by
  intro H enc w fuel cs x h hw
  rcases Go.Deep.open_slice ht h with ⟨rfl, rfl⟩ | ⟨a, len, cap, m, n, D, Pl, rfl, _, hl, hm, hmm, rfl, hi⟩
  · exact ⟨[], ⟨none, 0, rfl, by simp, rfl, by simp, fun hn => absurd hn (by simp)⟩, by simp, by simp⟩
  have hmm' : m = cap := by simpa using hmm
  subst hmm'
  have hw' : (len + (m - len)) * B ≤ 140737488351232 := by
    have := hw ((len + (m - len)) * B) (by simp [DataW.weights, ht, hB])
    exact this
  obtain ⟨l, hlen, hq⟩ := list_of (fun i y => ∃ c, w.cells? 0 (a.add (i * P.cellsOf e)) (P.cellsOf e) = some c ∧ d.K w y c ∧ V y) len (fun i hil => by
    obtain ⟨c, hc, htr⟩ := hi i (by omega)
    obtain ⟨y, hy, hV⟩ := he H enc w n c _ htr (fun k hk => hw k (by
      simp only [DataW.weights, ht, List.mem_cons, List.mem_append]
      exact .inr (.inl (weights_all hk (List.mem_map.2 ⟨i, List.mem_range.2 hil, rfl⟩)))))
    exact ⟨y, c, hc, hy, hV⟩)
  refine ⟨l, ⟨some a, m, by rw [hlen], by omega, ?_⟩, ?_, ?_⟩
  · refine ⟨rfl, by simp only [maxLen] at hm; omega, fun _ => ⟨a, rfl, fun j p hj => ?_⟩⟩
    obtain ⟨c, hc, hK, _⟩ := hq j p hj
    obtain ⟨_, hcl, hat⟩ := World.cells?_some hc
    refine ⟨c, by rw [hcl, hs], hK, fun i u hu => ?_⟩
    have hil : i < P.cellsOf e := by
      have := (List.getElem?_eq_some_iff.1 hu).1
      omega
    rw [← hs, ← Go.Deep.add_add, hat i hil, hu]
  · rw [hlen]
    exact Nat.le_trans (Nat.mul_le_mul_right _ (by omega)) hw'
  · intro y hy
    obtain ⟨i, hi2⟩ := List.mem_iff_getElem?.1 hy
    exact (hq i y hi2).elim fun c h => h.2.2
def OpnF (P : Program) (fs : List Field) {α : Type} (d : Kd α) (V : α → Prop) (o : Nat) : Prop :=
  ∀ (H : Type) (enc : TypeId × Value → H) (w : World) (n : Nat) (cs : List Value) (xs : List (DataW H × List MemPlace)),
    o + d.sz ≤ cs.length →
    (∀ (i : Nat) (f : Field), fs[i]? = some f → ∃ x, xs[i]? = some x ∧ DataW.trod enc P w 0 (fun _ => true) true n f.type ((cs.drop f.offset).take (P.cellsOf f.type)) = some x ∧ ∀ k ∈ DataW.weights P f.type x.1, k ≤ 140737488351232) →
    ∃ y, d.K w y ((cs.drop o).take d.sz) ∧ V y
theorem opn_last {P : Program} {f : Field} {α : Type} {d : Kd α} {V : α → Prop} {o : Nat} (ho : f.offset = o) (hs : P.cellsOf f.type = d.sz) (h : Opn P f.type d V) : OpnF P [f] d V o := by
  intro H enc w n cs xs _ hx
  obtain ⟨x, _, ht, hw⟩ := hx 0 f rfl
  rw [hs, ho] at ht
  exact h H enc w n _ x ht hw
theorem take_two {α : Type} (cs : List α) (o a b : Nat) : (cs.drop o).take (a + b) = (cs.drop o).take a ++ (cs.drop (o + a)).take b := by
  rw [List.take_add, List.drop_drop]
theorem opn_cons {P : Program} {f : Field} {fs : List Field} {α β : Type} {a : Kd α} {b : Kd β} {V : α → Prop} {U : β → Prop} {o : Nat} (ho : f.offset = o) (hs : P.cellsOf f.type = a.sz) (h : Opn P f.type a V) (hr : OpnF P fs b U (o + a.sz)) :
    OpnF P (f :: fs) (Kd.pair a b) (fun y => V y.1 ∧ U y.2) o := by
  intro H enc w n cs xs hl hx
  obtain ⟨x, hx0, ht, hw⟩ := hx 0 f rfl
  rw [hs, ho] at ht
  obtain ⟨y, hy, hV⟩ := h H enc w n _ x ht hw
  have hl' : o + (a.sz + b.sz) ≤ cs.length := hl
  obtain ⟨z, hz, hU⟩ := hr H enc w n cs (xs.drop 1) (by omega) (fun i g hg => by
    obtain ⟨x', h1, h2⟩ := hx (i + 1) g (by simpa using hg)
    exact ⟨x', by rw [List.getElem?_drop, Nat.add_comm]; exact h1, h2⟩)
  exact ⟨(y, z), ⟨_, _, take_two cs o a.sz b.sz, hy, hz⟩, hV, hU⟩
theorem opn_struct {P : Program} {t : TypeId} {fa : Array Field} {fs : List Field} {α β : Type} {d : Kd α} {V : α → Prop} (ht : P.underlying t = some (.struct fa)) (hf : fa.toList = fs) (hs : P.cellsOf t = d.sz) (g : β → α) (g' : α → β) (hg : ∀ y, g (g' y) = y)
    (h : OpnF P fs d V 0) : Opn P t (Kd.iso d g) (fun x => V (g x)) := by
  intro H enc w fuel cs x hx hw
  obtain ⟨xs, n, rfl, rfl, hl, hxl, hfs⟩ := DataW.trod_struct ht hx
  obtain ⟨y, hy, hV⟩ := h H enc w n cs xs (by omega) (fun i f hi => by
    have hi' : fa[i]? = some f := by rw [← hf] at hi; simpa using hi
    have hlt : i < xs.length := by
      rw [hxl]
      exact (Array.getElem?_eq_some_iff.1 hi').1
    have h1 := hfs i f hi'
    refine ⟨xs[i], List.getElem?_eq_getElem hlt, by rw [h1, List.getElem?_eq_getElem hlt], fun k hk => hw k ?_⟩
    simp only [DataW.weights, ht]
    refine DataW.weights_mem_each (j := i) (t := f.type) (d := xs[i].1) ?_ ?_ k hk
    · rw [List.getElem?_map, hf, hi]
      rfl
    · rw [List.getElem?_map, List.getElem?_eq_getElem hlt]
      rfl)
  refine ⟨g' y, ?_, ?_⟩
  · show d.K w (g (g' y)) cs
    rw [hg]
    rw [List.drop_zero, ← hs, ← hl, List.take_length] at hy
    exact hy
  · show V (g (g' y))
    rw [hg]
    exact hV
theorem arg_slice {H : Type} {enc : TypeId × Value → H} {P : Program} {t e : TypeId} {α : Type} {d : Kd α} {V : List α → Prop} {W : World} {v : Value} {x : DataW H} {ps : List MemPlace} (ho : Opn P t (Kd.slice e d) V) (a : Option Addr) (len cap : Nat) (hv : v = .slice a len cap)
    (h : DataW.Trod enc P W 0 (fun _ => true) true t v x ps) (hw : ∀ n ∈ DataW.weights P t x, n ≤ 140737488351232) : ∃ (A : Option Addr) (c : Nat) (l : List α), v = .slice A l.length c ∧ l.length ≤ c ∧ Kd.C d W A l.length l ∧ V l := by
  obtain ⟨fuel, hf⟩ := h
  obtain ⟨l, ⟨A, c, hc, hl, hC⟩, hV⟩ := ho H enc W fuel _ _ hf hw
  subst hv
  have he : Value.slice a len cap = .slice A l.length c := by simpa [Value.cells] using hc
  exact ⟨A, c, l, he, hl, hC, hV⟩
theorem arg_weights {H : Type} {P : Program} {ts : List TypeId} {ds : List (DataW H)} (h : (DataW.weightsEach P ts ds).all (· ≤ reachBytes) = true) {j : Nat} {t : TypeId} {d : DataW H} (ht : ts[j]? = some t) (hd : ds[j]? = some d) : ∀ n ∈ DataW.weights P t d, n ≤ 140737488351232 := by
  intro n hn
  have := List.all_eq_true.1 h n (DataW.weights_mem_each ht hd n hn)
  exact of_decide_eq_true this
end Go.Proofs.Ytejidnmgjccidaa.Opn
end
section
namespace Go.Proofs.Ytejidnmgjccidaa.R
open Go.RowKit Go.Proofs.YtejidnmgjccidaaW.PrintWords Go.Proofs.Ytejidnmgjccidaa.Opn
def V23 (x : S23) : Prop := ((Lit.int .i64 x.f0).wf = true) ∧ ((Lit.int .i64 x.f1).wf = true)
theorem opn23 : Opn Try.prog 23 k23 V23 := opn_struct Try.underlying23 rfl (by kernel_rfl) (fun x : S23 => (x.f0, x.f1)) (fun y => (⟨y.1, y.2⟩ : S23)) (fun _ => rfl) (opn_cons rfl (by kernel_rfl) (opn_int Try.underlying3) (opn_last rfl (by kernel_rfl) (opn_int Try.underlying2)))
def V25 (x : S25) : Prop := ((Lit.int .i64 x.f0).wf = true) ∧ ((Lit.int .i64 x.f1).wf = true) ∧ (V23 x.f2)
theorem opn25 : Opn Try.prog 25 k25 V25 := opn_struct Try.underlying25 rfl (by kernel_rfl) (fun x : S25 => (x.f0, x.f1, x.f2)) (fun y => (⟨y.1, y.2.1, y.2.2⟩ : S25)) (fun _ => rfl) (opn_cons rfl (by kernel_rfl) (opn_int Try.underlying3) (opn_cons rfl (by kernel_rfl) (opn_int Try.underlying3) (opn_last rfl (by kernel_rfl) opn23)))
end Go.Proofs.Ytejidnmgjccidaa.R
end
section
namespace Go.Proofs.Ytejidnmgjccidaa.R
open Go.RowKit Go.Proofs.YtejidnmgjccidaaW.PrintWords
def plenumlaw13_PriorityJoins.Pure : Prop := ∀ (l0 : List (S25)) (l1 : List (S25)) (l2 : List (S25)), (l0.length * 32 ≤ 140737488351232 ∧ ∀ y ∈ l0, V25 y) → (l1.length * 32 ≤ 140737488351232 ∧ ∀ y ∈ l1, V25 y) → (l2.length * 32 ≤ 140737488351232 ∧ ∀ y ∈ l2, V25 y) → ∃ k, plenumlaw13_PriorityJoins.f k l0 l1 l2 = some true
end Go.Proofs.Ytejidnmgjccidaa.R
end
section
namespace Go.Proofs.Ytejidnmgjccidaa.R
open Go.RowKit Go.Proofs.YtejidnmgjccidaaW.PrintWords Go.Proofs.YtejidnmgjccidaaW.PrintLast Go.Proofs.YtejidnmgjccidaaW.PrintMore
attribute [local go_sem] max2_int min2_int max_two min_two max_three min_three max_four min_four
set_option linter.unusedVariables false
set_option linter.unusedSimpArgs false
def plenumref13_Possible.f (a0_0 : Int) (a0_1 : Int) : Option (Bool) := if a0_0 = 0 then (some (a0_1 == 0)) else (if a0_0 = 1 then (if a0_1 ≥ (-1000000000000) then (some (decide (a0_1 ≤ 1000000000000))) else (some false)) else (if a0_0 = 2 then (if a0_1 = 0 then (some true) else (some (a0_1 == 1))) else (if a0_0 = 3 then (if a0_1 ≥ 1 then (some (decide (a0_1 ≤ 16))) else (some false)) else (some false))))
end Go.Proofs.Ytejidnmgjccidaa.R
end
section
namespace Go.Proofs.Ytejidnmgjccidaa.R
open Go.RowKit Go.Proofs.YtejidnmgjccidaaW.PrintWords Go.Proofs.YtejidnmgjccidaaW.PrintLast Go.Proofs.YtejidnmgjccidaaW.PrintMore
attribute [local go_sem] max2_int min2_int max_two min_two max_three min_three max_four min_four
set_option linter.unusedVariables false
set_option linter.unusedSimpArgs false
mutual
def plenumref13_Check.j0 : Nat → Bool → Int → Int → Int → Int → Option (Int)
  | 0, _, _, _, _, _ => none
  | k + 1, x10, x183000, x183001, x183002, x183003 => if x10 = true then (some 1) else (if x183001 < 1 then (plenumref13_Check.j1 k true x183000 x183001 x183002 x183003) else (plenumref13_Check.j1 k (decide (x183001 > 1000000000)) x183000 x183001 x183002 x183003))
def plenumref13_Check.j1 : Nat → Bool → Int → Int → Int → Int → Option (Int)
  | 0, _, _, _, _, _ => none
  | k + 1, x18, x183000, x183001, x183002, x183003 => if x18 = true then (some 6) else ((plenumref13_Possible.f x183002 x183003).bind fun t183 => (if t183 = true then (some 0) else (some 11)))
end
def plenumref13_Check.f (k : Nat) (a0_0 : Int) (a0_1 : Int) (a0_2 : Int) (a0_3 : Int) : Option (Int) := if a0_0 < 1 then (plenumref13_Check.j0 k true a0_0 a0_1 a0_2 a0_3) else (plenumref13_Check.j0 k (decide (a0_0 > 16)) a0_0 a0_1 a0_2 a0_3)
end Go.Proofs.Ytejidnmgjccidaa.R
end
section
namespace Go.Proofs.Ytejidnmgjccidaa.R
open Go.RowKit Go.Proofs.YtejidnmgjccidaaW.PrintWords Go.Proofs.YtejidnmgjccidaaW.PrintLast Go.Proofs.YtejidnmgjccidaaW.PrintMore
attribute [local go_sem] max2_int min2_int max_two min_two max_three min_three max_four min_four
set_option linter.unusedVariables false
set_option linter.unusedSimpArgs false
def plenumref13_less.f (a0_0 : Int) (a0_1 : Int) (a0_2 : Int) (a0_3 : Int) (a1_0 : Int) (a1_1 : Int) (a1_2 : Int) (a1_3 : Int) : Option (Bool) := if a0_1 = a1_1 then (if a0_2 = a1_2 then (some (decide (a0_3 < a1_3))) else (some (decide (a0_2 < a1_2)))) else (some (decide (a0_1 < a1_1)))
end Go.Proofs.Ytejidnmgjccidaa.R
end
section
namespace Go.Proofs.Ytejidnmgjccidaa.R
open Go.RowKit Go.Proofs.YtejidnmgjccidaaW.PrintWords Go.Proofs.YtejidnmgjccidaaW.PrintLast Go.Proofs.YtejidnmgjccidaaW.PrintMore
attribute [local go_sem] max2_int min2_int max_two min_two max_three min_three max_four min_four
set_option linter.unusedVariables false
set_option linter.unusedSimpArgs false
def plenumref13_at.l0 : Nat → List (S25) → Int → Bool → Int → Int → Int → Int → Int → Option (Int × Int × Int × Int × Bool)
  | 0, _, _, _, _, _, _, _, _ => none
  | k + 1, x0, x1, x7, x8, x190000, x190001, x190002, x190003 => if x8 < (x0.length : Int) then (if 0 ≤ x8 then (if ((rd_T25 x0 x8).f0) = x1 then ((plenumref13_Check.f k ((rd_T25 x0 x8).f0) ((rd_T25 x0 x8).f1) ((rd_T25 x0 x8).f2.f0) ((rd_T25 x0 x8).f2.f1)).bind fun t192 => (if t192 = 0 then (if x7 = true then ((plenumref13_less.f x190000 x190001 x190002 x190003 ((rd_T25 x0 x8).f0) ((rd_T25 x0 x8).f1) ((rd_T25 x0 x8).f2.f0) ((rd_T25 x0 x8).f2.f1)).bind fun t193 => (if t193 = true then (plenumref13_at.l0 k x0 x1 true (wrap64 (x8 + 1)) ((rd_T25 x0 x8).f0) ((rd_T25 x0 x8).f1) ((rd_T25 x0 x8).f2.f0) ((rd_T25 x0 x8).f2.f1)) else (plenumref13_at.l0 k x0 x1 x7 (wrap64 (x8 + 1)) x190000 x190001 x190002 x190003))) else (plenumref13_at.l0 k x0 x1 true (wrap64 (x8 + 1)) ((rd_T25 x0 x8).f0) ((rd_T25 x0 x8).f1) ((rd_T25 x0 x8).f2.f0) ((rd_T25 x0 x8).f2.f1))) else (plenumref13_at.l0 k x0 x1 x7 (wrap64 (x8 + 1)) x190000 x190001 x190002 x190003))) else (plenumref13_at.l0 k x0 x1 x7 (wrap64 (x8 + 1)) x190000 x190001 x190002 x190003)) else (none)) else (some (x190000, x190001, x190002, x190003, x7))
def plenumref13_at.f (k : Nat) (l0 : List (S25)) (a1 : Int) : Option (Int × Int × Int × Int × Bool) := plenumref13_at.l0 k l0 a1 false 0 0 0 0 0
end Go.Proofs.Ytejidnmgjccidaa.R
end
section
namespace Go.Proofs.Ytejidnmgjccidaa.R
open Go.RowKit Go.Proofs.YtejidnmgjccidaaW.PrintWords Go.Proofs.YtejidnmgjccidaaW.PrintLast Go.Proofs.YtejidnmgjccidaaW.PrintMore
attribute [local go_sem] max2_int min2_int max_two min_two max_three min_three max_four min_four
set_option linter.unusedVariables false
set_option linter.unusedSimpArgs false
end Go.Proofs.Ytejidnmgjccidaa.R
end
section
namespace Go.Proofs.Ytejidnmgjccidaa.R
open Go.RowKit Go.Proofs.YtejidnmgjccidaaW.PrintWords Go.Proofs.YtejidnmgjccidaaW.PrintLast Go.Proofs.YtejidnmgjccidaaW.PrintMore
attribute [local go_sem] max2_int min2_int max_two min_two max_three min_three max_four min_four
set_option linter.unusedVariables false
set_option linter.unusedSimpArgs false
end Go.Proofs.Ytejidnmgjccidaa.R
end
section
namespace Go.Proofs.Ytejidnmgjccidaa.R
open Go.RowKit Go.Proofs.YtejidnmgjccidaaW.PrintWords Go.Proofs.YtejidnmgjccidaaW.PrintLast Go.Proofs.YtejidnmgjccidaaW.PrintMore
attribute [local go_sem] max2_int min2_int max_two min_two max_three min_three max_four min_four
set_option linter.unusedVariables false
set_option linter.unusedSimpArgs false
end Go.Proofs.Ytejidnmgjccidaa.R
end
section
namespace Go.Proofs.Ytejidnmgjccidaa.R
open Go.RowKit Go.Proofs.YtejidnmgjccidaaW.PrintWords Go.Proofs.YtejidnmgjccidaaW.PrintLast Go.Proofs.YtejidnmgjccidaaW.PrintMore
attribute [local go_sem] max2_int min2_int max_two min_two max_three min_three max_four min_four
set_option linter.unusedVariables false
set_option linter.unusedSimpArgs false
end Go.Proofs.Ytejidnmgjccidaa.R
end
section
namespace Go.Proofs.Ytejidnmgjccidaa.R
open Go.RowKit Go.Proofs.YtejidnmgjccidaaW.PrintWords Go.Proofs.YtejidnmgjccidaaW.PrintLast Go.Proofs.YtejidnmgjccidaaW.PrintMore
attribute [local go_sem] max2_int min2_int max_two min_two max_three min_three max_four min_four
set_option linter.unusedVariables false
set_option linter.unusedSimpArgs false
end Go.Proofs.Ytejidnmgjccidaa.R
end
section
namespace Go.Proofs.Ytejidnmgjccidaa.R
open Go.RowKit Go.Proofs.YtejidnmgjccidaaW.PrintWords Go.Proofs.YtejidnmgjccidaaW.PrintLast Go.Proofs.YtejidnmgjccidaaW.PrintMore
attribute [local go_sem] max2_int min2_int max_two min_two max_three min_three max_four min_four
set_option linter.unusedVariables false
set_option linter.unusedSimpArgs false
end Go.Proofs.Ytejidnmgjccidaa.R
end
section
namespace Go.Proofs.Ytejidnmgjccidaa.R
open Go.RowKit Go.Proofs.YtejidnmgjccidaaW.PrintWords Go.Proofs.YtejidnmgjccidaaW.PrintLast Go.Proofs.YtejidnmgjccidaaW.PrintMore
attribute [local go_sem] max2_int min2_int max_two min_two max_three min_three max_four min_four
set_option linter.unusedVariables false
set_option linter.unusedSimpArgs false
end Go.Proofs.Ytejidnmgjccidaa.R
end
section
namespace Go.Proofs.Ytejidnmgjccidaa.Pure
open Go.RowKit Go.Proofs.Ytejidnmgjccidaa.R Go.Proofs.YtejidnmgjccidaaW.PrintWords Go.Proofs.YtejidnmgjccidaaW.PrintLast Go.Proofs.YtejidnmgjccidaaW.PrintMore
set_option linter.unusedVariables false
theorem w64 {n : Int} (h0 : -9223372036854775808 ≤ n) (h1 : n ≤ 9223372036854775807) : wrap64 n = n := by unfold wrap64; omega
theorem few_eq (l : List S25) : plenumlaw13_few.f l = some (decide ((l.length : Int) ≤ 60)) := rfl
theorem lss_irr (a : S25) : lss a a = false := by unfold lss; simp
theorem lss_false (a b : S25) : lss a b = false ↔ b.f1 < a.f1 ∨ (b.f1 = a.f1 ∧ (b.f2.f0 < a.f2.f0 ∨ (b.f2.f0 = a.f2.f0 ∧ b.f2.f1 ≤ a.f2.f1))) := by
  unfold lss
  split
  · split
    · simp only [decide_eq_false_iff_not]; omega
    · simp only [decide_eq_false_iff_not]; omega
  · simp only [decide_eq_false_iff_not]; omega
theorem lss_true (a b : S25) : lss a b = true ↔ a.f1 < b.f1 ∨ (a.f1 = b.f1 ∧ (a.f2.f0 < b.f2.f0 ∨ (a.f2.f0 = b.f2.f0 ∧ a.f2.f1 < b.f2.f1))) := by
  unfold lss
  split
  · split
    · simp only [decide_eq_true_eq]; omega
    · simp only [decide_eq_true_eq]; omega
  · simp only [decide_eq_true_eq]; omega
theorem lss_trans {a b c : S25} (h1 : lss a b = false) (h2 : lss b c = false) : lss a c = false := by
  rw [lss_false] at *
  omega
theorem lss_anti {a b : S25} (h0 : a.f0 = b.f0) (h1 : lss a b = false) (h2 : lss b a = false) : a = b := by
  rw [lss_false] at *
  obtain ⟨a0, a1, a2, a3⟩ := a
  obtain ⟨b0, b1, b2, b3⟩ := b
  simp only at *
  have e1 : a1 = b1 := by omega
  have e2 : a2 = b2 := by omega
  have e3 : a3 = b3 := by omega
  subst h0 e1 e2 e3
  rfl
theorem lss_of {a b : S25} (h : lss a b = true) : lss b a = false := by
  rw [lss_true] at h
  rw [lss_false]
  omega
structure Best (l : List S25) (n : Nat) (o : Option S25) : Prop where
  top : ∀ x ∈ l, chk x = 0 → x.f0.toNat = n → ∃ y, o = some y ∧ lss y x = false
  mem : ∀ y, o = some y → y ∈ l ∧ chk y = 0 ∧ y.f0.toNat = n
theorem put1_at (t : Tb) (x : S25) (n : Nat) : put1 t x n = if n = x.f0.toNat ∧ chk x = 0 ∧ over (t n) x = true then some x else t n := rfl
theorem best_snoc {l : List S25} {n : Nat} {t : Tb} (h : Best l n (t n)) (x : S25) : Best (l ++ [x]) n (put1 t x n) := by
  rw [put1_at]
  by_cases c : n = x.f0.toNat ∧ chk x = 0 ∧ over (t n) x = true
  · rw [if_pos c]
    refine ⟨fun z hz hv hl => ⟨x, rfl, ?_⟩, fun y e => ?_⟩
    · rcases List.mem_append.1 hz with hz | hz
      · obtain ⟨y, e, hy⟩ := h.top z hz hv hl
        have h3 := c.2.2
        rw [e] at h3
        exact lss_trans (lss_of h3) hy
      · rw [List.mem_singleton.1 hz]
        exact lss_irr x
    · obtain rfl := Option.some.inj e
      exact ⟨by simp, c.2.1, c.1.symm⟩
  · rw [if_neg c]
    refine ⟨fun z hz hv hl => ?_, fun y e => ?_⟩
    · rcases List.mem_append.1 hz with hz | hz
      · exact h.top z hz hv hl
      · rw [List.mem_singleton.1 hz] at hv hl ⊢
        cases e : t n with
        | none => exact absurd ⟨hl.symm, hv, by rw [e]; rfl⟩ c
        | some y =>
          refine ⟨y, rfl, ?_⟩
          cases hq : lss y x with
          | false => rfl
          | true => exact absurd ⟨hl.symm, hv, by rw [e]; exact hq⟩ c
    · obtain ⟨h1, h2⟩ := h.mem y e
      exact ⟨List.mem_append_left _ h1, h2⟩
theorem best_fold (n : Nat) (m : List S25) : ∀ (l : List S25) (t : Tb), Best l n (t n) → Best (l ++ m) n (m.foldl put1 t n) := by
  induction m with
  | nil => intro l t h; simpa using h
  | cons x m ih =>
    intro l t h
    have := ih (l ++ [x]) (put1 t x) (best_snoc h x)
    simpa using this
theorem best_tab (l : List S25) (n : Nat) : Best l n (tabOf l n) := by
  have := best_fold n l [] (fun _ => none) ⟨fun _ h => by simp at h, fun _ h => by cases h⟩
  simpa [tabOf] using this
theorem lvl_eq {x y : S25} (hx : chk x = 0) (hy : chk y = 0) (h : x.f0.toNat = y.f0.toNat) : x.f0 = y.f0 := by
  have := chk_range hx
  have := chk_range hy
  omega
theorem tab_dom {l l' : List S25} (h1 : ∀ x ∈ l, chk x = 0 → ∃ y ∈ l', chk y = 0 ∧ y.f0 = x.f0 ∧ lss y x = false) (h2 : ∀ x ∈ l', chk x = 0 → ∃ y ∈ l, chk y = 0 ∧ y.f0 = x.f0 ∧ lss y x = false) : tabOf l = tabOf l' := by
  funext n
  have b1 := best_tab l n
  have b2 := best_tab l' n
  cases e1 : tabOf l n with
  | none =>
    cases e2 : tabOf l' n with
    | none => rfl
    | some y =>
      obtain ⟨m1, m2, m3⟩ := b2.mem y e2
      obtain ⟨z, z1, z2, z3, _⟩ := h2 y m1 m2
      obtain ⟨q, e, _⟩ := b1.top z z1 z2 (by rw [z3]; exact m3)
      rw [e1] at e
      cases e
  | some x =>
    obtain ⟨n1, n2, n3⟩ := b1.mem x e1
    obtain ⟨z, z1, z2, z3, z4⟩ := h1 x n1 n2
    obtain ⟨q, e, hq⟩ := b2.top z z1 z2 (by rw [z3]; exact n3)
    rw [e]
    obtain ⟨m1, m2, m3⟩ := b2.mem q e
    obtain ⟨u, u1, u2, u3, u4⟩ := h2 q m1 m2
    obtain ⟨p, ep, hp⟩ := b1.top u u1 u2 (by rw [u3]; exact m3)
    rw [e1] at ep
    obtain rfl := Option.some.inj ep
    rw [lss_anti (lvl_eq n2 m2 (by omega)) (lss_trans hp u4) (lss_trans hq z4)]
theorem mem_list {t : Tb} {x : S25} : x ∈ listOf t ↔ ∃ n, n < 17 ∧ t n = some x := by
  unfold listOf
  simp [List.mem_filterMap]
theorem list_len (t : Tb) : (listOf t).length ≤ 17 := by
  have := List.length_filterMap_le t (List.range 17)
  simpa [listOf] using this
theorem dom_refl {l l' : List S25} (h : ∀ x ∈ l, x ∈ l') : ∀ x ∈ l, chk x = 0 → ∃ y ∈ l', chk y = 0 ∧ y.f0 = x.f0 ∧ lss y x = false := fun x hx hv => ⟨x, h x hx, hv, rfl, lss_irr x⟩
theorem dom_tab {l l' : List S25} (h : ∀ x ∈ listOf (tabOf l), x ∈ l') : ∀ x ∈ l, chk x = 0 → ∃ y ∈ l', chk y = 0 ∧ y.f0 = x.f0 ∧ lss y x = false := by
  intro x hx hv
  obtain ⟨y, e, hy⟩ := (best_tab l x.f0.toNat).top x hx hv rfl
  obtain ⟨m1, m2, m3⟩ := (best_tab l x.f0.toNat).mem y e
  have := chk_range hv
  exact ⟨y, h y (mem_list.2 ⟨x.f0.toNat, by omega, e⟩), m2, lvl_eq m2 hv m3, hy⟩
theorem mem_tab {l : List S25} {x : S25} (h : x ∈ listOf (tabOf l)) : x ∈ l ∧ chk x = 0 := by
  obtain ⟨n, hn, e⟩ := mem_list.1 h
  have := (best_tab l n).mem x e
  exact ⟨this.1, this.2.1⟩
theorem tab_tab (l : List S25) : tabOf (listOf (tabOf l)) = tabOf l := tab_dom (dom_refl fun x h => (mem_tab h).1) (dom_tab fun x h => h)
theorem tab_app_left (l m : List S25) : tabOf (listOf (tabOf l) ++ m) = tabOf (l ++ m) := by
  refine tab_dom (dom_refl fun x h => ?_) (fun x hx hv => ?_)
  · rcases List.mem_append.1 h with h | h
    · exact List.mem_append_left _ (mem_tab h).1
    · exact List.mem_append_right _ h
  · rcases List.mem_append.1 hx with h | h
    · exact dom_tab (fun y hy => List.mem_append_left _ hy) x h hv
    · exact ⟨x, List.mem_append_right _ h, hv, rfl, lss_irr x⟩
theorem tab_mem {l l' : List S25} (h : ∀ x, x ∈ l ↔ x ∈ l') : tabOf l = tabOf l' := tab_dom (dom_refl fun x hx => (h x).1 hx) (dom_refl fun x hx => (h x).2 hx)
theorem tab_app_right (l m : List S25) : tabOf (l ++ listOf (tabOf m)) = tabOf (l ++ m) := by
  rw [tab_mem (l' := listOf (tabOf m) ++ l) (fun x => by simp [or_comm]), tab_app_left]
  exact tab_mem (fun x => by simp [or_comm])
theorem refChk (k : Nat) (x : S25) : plenumref13_Check.f (k + 2) x.f0 x.f1 x.f2.f0 x.f2.f1 = some (chk x) := by
  have hp : plenumref13_Possible.f x.f2.f0 x.f2.f1 = some (possB x.f2.f0 x.f2.f1) := poss_eq x.f2.f0 x.f2.f1
  unfold plenumref13_Check.f chk
  by_cases h1 : x.f0 < 1
  · simp [h1, plenumref13_Check.j0]
  by_cases h2 : x.f0 > 16
  · simp [h1, h2, plenumref13_Check.j0]
  by_cases h3 : x.f1 < 1
  · simp [h1, h2, h3, plenumref13_Check.j0, plenumref13_Check.j1]
  by_cases h4 : x.f1 > 1000000000
  · simp [h1, h2, h3, h4, plenumref13_Check.j0, plenumref13_Check.j1]
  · simp only [h1, h2, h3, h4, plenumref13_Check.j0, plenumref13_Check.j1, hp, Option.bind_some, if_false, if_true, decide_false, Bool.false_eq_true, or_self]
    cases possB x.f2.f0 x.f2.f1 <;> rfl
theorem refLess (a b : S25) : plenumref13_less.f a.f0 a.f1 a.f2.f0 a.f2.f1 b.f0 b.f1 b.f2.f0 b.f2.f1 = some (lss a b) := by
  unfold plenumref13_less.f lss
  split <;> (try split) <;> rfl
def bst (o : Option S25) : S25 := o.getD z25
def atR (o : Option S25) : Int × Int × Int × Int × Bool := ((bst o).f0, (bst o).f1, (bst o).f2.f0, (bst o).f2.f1, o.isSome)
theorem rd_at (l : List S25) (i : Nat) (hi : i < l.length) : rd_T25 l (i : Int) = l[i] := by
  simp [rd_T25, List.getD_eq_getElem?_getD, List.getElem?_eq_getElem hi]
theorem at_loop (l : List S25) (n : Nat) (hl : l.length ≤ 1000) : ∀ (d i k : Nat), i + d = l.length → plenumref13_at.l0 (k + d + 3) l (n : Int) (tabOf (l.take i) n).isSome (i : Int) (bst (tabOf (l.take i) n)).f0 (bst (tabOf (l.take i) n)).f1 (bst (tabOf (l.take i) n)).f2.f0 (bst (tabOf (l.take i) n)).f2.f1 = some (atR (tabOf l n)) := by
  intro d
  induction d with
  | zero =>
    intro i k hi
    obtain rfl : i = l.length := by omega
    rw [List.take_length, show k + 0 + 3 = (k + 2) + 1 by omega, plenumref13_at.l0, if_neg (by omega)]
    rfl
  | succ d ih =>
    intro i k hi
    have hlt : i < l.length := by omega
    have hw : wrap64 ((i : Int) + 1) = ((i + 1 : Nat) : Int) := by rw [w64 (by omega) (by omega)]; omega
    have hT := congrFun (tab_take l i hlt) n
    have ih' := ih (i + 1) k (by omega)
    rw [hT, put1_at] at ih'
    rw [show k + (d + 1) + 3 = (k + d + 3) + 1 by omega, plenumref13_at.l0, if_pos (by omega), if_pos (by omega), hw]
    generalize rd_T25 l (i : Int) = x at *
    generalize hO : tabOf (l.take i) n = o at *
    by_cases c1 : x.f0 = (n : Int)
    · rw [if_pos c1, show k + d + 3 = (k + d + 1) + 2 by omega, refChk, Option.bind_some]
      by_cases c2 : chk x = 0
      · rw [if_pos c2]
        cases o with
        | none =>
          rw [if_pos ⟨by omega, c2, rfl⟩] at ih'
          rw [if_neg (by simp)]
          exact ih'
        | some y =>
          rw [if_pos (by rfl)]
          have e : plenumref13_less.f (bst (some y)).f0 (bst (some y)).f1 (bst (some y)).f2.f0 (bst (some y)).f2.f1 x.f0 x.f1 x.f2.f0 x.f2.f1 = some (lss y x) := refLess y x
          rw [e, Option.bind_some]
          cases hq : lss y x with
          | true =>
            rw [if_pos ⟨by omega, c2, hq⟩] at ih'
            rw [if_pos rfl]
            exact ih'
          | false =>
            rw [if_neg (fun h => by have := h.2.2; rw [show over (some y) x = lss y x from rfl, hq] at this; cases this)] at ih'
            rw [if_neg (by decide)]
            exact ih'
      · rw [if_neg (fun h => c2 h.2.1)] at ih'
        rw [if_neg c2]
        exact ih'
    · rw [if_neg c1]
      rw [if_neg (fun h => c1 (by have := chk_range h.2.1; omega))] at ih'
      exact ih'
theorem at_eq (l : List S25) (n : Nat) (hl : l.length ≤ 1000) (k : Nat) (hk : l.length + 3 ≤ k) : plenumref13_at.f k l (n : Int) = some (atR (tabOf l n)) := by
  have := at_loop l n hl l.length 0 (k - l.length - 3) (by omega)
  rw [show k - l.length - 3 + l.length + 3 = k by omega] at this
  exact this
theorem same_loop (l : List S25) (hl : l.length ≤ 1000) : ∀ (d i k : Nat), i + d = l.length → d < k → plenumref13_Same.l0 k l l (i : Int) = some true := by
  intro d
  induction d with
  | zero =>
    intro i k hi hk
    obtain ⟨k, rfl⟩ : ∃ m, k = m + 1 := ⟨k - 1, by omega⟩
    rw [plenumref13_Same.l0, if_neg (by omega)]
  | succ d ih =>
    intro i k hi hk
    obtain ⟨k, rfl⟩ : ∃ m, k = m + 1 := ⟨k - 1, by omega⟩
    rw [plenumref13_Same.l0, if_pos (by omega), if_pos (by omega), if_pos (by omega), if_neg (by simp), w64 (by omega) (by omega)]
    exact ih (i + 1) k (by omega) (by omega)
theorem same_eq (l : List S25) (hl : l.length ≤ 1000) (k : Nat) (hk : l.length < k) : plenumref13_Same.f k l l = some true := by
  unfold plenumref13_Same.f
  rw [if_pos rfl]
  exact same_loop l hl l.length 0 k (by omega) hk
end Go.Proofs.Ytejidnmgjccidaa.Pure
end
section
namespace Go.Proofs.Ytejidnmgjccidaa.Pure
open Go.RowKit Go.Proofs.Ytejidnmgjccidaa.R Go.Proofs.YtejidnmgjccidaaW.PrintWords Go.Proofs.YtejidnmgjccidaaW.PrintLast Go.Proofs.YtejidnmgjccidaaW.PrintMore
set_option maxRecDepth 100000 in
theorem awake_60 : plenumlaw13_awake.f 60 = some true := by decide +kernel
theorem awake_eq (k : Nat) (hk : 60 ≤ k) : plenumlaw13_awake.f k = some true := by
  obtain ⟨k, rfl⟩ : ∃ m, k = m + 60 := ⟨k - 60, by omega⟩
  clear hk
  induction k with
  | zero => exact awake_60
  | succ k ih =>
    have := plenumlaw13_awake.mono (k + 60)
    rw [show k + 1 + 60 = k + 60 + 1 by omega]
    exact this _ ih
end Go.Proofs.Ytejidnmgjccidaa.Pure
end
section
namespace Go.Proofs.Ytejidnmgjccidaa.Pure
open Go.RowKit Go.Proofs.Ytejidnmgjccidaa.R Go.Proofs.YtejidnmgjccidaaW.PrintWords Go.Proofs.YtejidnmgjccidaaW.PrintLast Go.Proofs.YtejidnmgjccidaaW.PrintMore
set_option linter.unusedVariables false
theorem turn_loop (a b c : List S25) (ha : a.length ≤ 60) (r : Option Bool) : ∀ (d k : Nat) (acc : List S25), d ≤ a.length → d ≤ k → acc.length + 2 * d ≤ 120 → (∀ x, x ∈ acc ↔ x ∈ a.drop d) →
    (∀ (k2 : Nat) (acc2 : List S25), k2 + d = k → acc2.length ≤ 120 → (∀ x, x ∈ acc2 ↔ x ∈ a) → plenumlaw13_PriorityJoins.l0 k2 a b c acc2 (-1) = r) → plenumlaw13_PriorityJoins.l0 k a b c acc ((d : Int) - 1) = r := by
  intro d
  induction d with
  | zero =>
    intro k acc hd hk hl hm h
    exact h k acc (by omega) (by omega) (by simpa using hm)
  | succ d ih =>
    intro k acc hd hk hl hm h
    obtain ⟨k, rfl⟩ : ∃ m, k = m + 1 := ⟨k - 1, by omega⟩
    have hx : rd_T25 a ((d : Nat) : Int) = a[d] := rd_at a d (by omega)
    rw [show ((d + 1 : Nat) : Int) - 1 = (d : Int) by omega, plenumlaw13_PriorityJoins.l0, if_pos (by omega), if_pos (by omega), if_pos (by omega), Option.bind_some, if_pos (by simp; omega), w64 (by omega) (by omega)]
    refine ih k _ (by omega) (by omega) (by simp; omega) (fun x => ?_) (fun k2 acc2 h1 h2 h3 => h k2 acc2 (by omega) h2 h3)
    rw [List.drop_eq_getElem_cons (show d < a.length by omega), List.mem_append, hm x, ← hx]
    simp [or_comm]
theorem PriorityJoins : plenumlaw13_PriorityJoins.Pure := by
  intro a b c ha hb hc
  refine ⟨1000, ?_⟩
  unfold plenumlaw13_PriorityJoins.f
  rw [awake_eq _ (by omega), Option.bind_some, if_pos rfl, few_eq, few_eq, few_eq, Option.bind_some, Option.bind_some, Option.bind_some]
  have hT : plenumlaw13_PriorityJoins.j0 1000 a b c true = some true := by
    rw [show (1000 : Nat) = 999 + 1 from rfl, plenumlaw13_PriorityJoins.j0, if_pos rfl]
  by_cases ca : (a.length : Int) ≤ 60
  · rw [if_pos (decide_eq_true ca)]
    by_cases cb : (b.length : Int) ≤ 60
    · rw [if_pos (decide_eq_true cb)]
      by_cases cc : (c.length : Int) ≤ 60
      · rw [decide_eq_true cc, show (1000 : Nat) = 999 + 1 from rfl, plenumlaw13_PriorityJoins.j0, if_neg (by decide), w64 (by omega) (by omega)]
        have la : ∀ t, (listOf t).length ≤ 17 := list_len
        have ok : ∀ l : List S25, l.length ≤ 1000 → okLen l := fun _ h => h
        refine turn_loop a b c (by omega) (some true) a.length 999 [] (by omega) (by omega) (by simp; omega) (by simp) (fun k acc hk hl hm => ?_)
        obtain ⟨k, rfl⟩ : ∃ m, k = m + 30 := ⟨k - 30, by omega⟩
        rw [show k + 30 = (k + 29) + 1 by omega, plenumlaw13_PriorityJoins.l0, if_neg (by decide)]
        have same : ∀ t, plenumref13_Same.f (k + 29) (listOf t) (listOf t) = some true := fun t => same_eq _ (by have := la t; omega) _ (by have := la t; omega)
        have j : ∀ x y : List S25, x.length ≤ 120 → y.length ≤ 120 → priority_Join.f x y = some (listOf (tabOf (x ++ y))) := fun x y hx hy => if_pos (ok _ (by simp; omega))
        have o : ∀ x : List S25, x.length ≤ 120 → priority_Of.f x = some (listOf (tabOf x)) := fun x hx => if_pos (ok _ (by omega))
        have l17 : ∀ t, (listOf t).length ≤ 120 := fun t => by have := la t; omega
        rw [j a b (by omega) (by omega), Option.bind_some, j b a (by omega) (by omega), Option.bind_some, tab_mem (l := b ++ a) (l' := a ++ b) (fun x => by simp [or_comm]), same, Option.bind_some, if_pos rfl]
        rw [j _ c (l17 _) (by omega), Option.bind_some, j b c (by omega) (by omega), Option.bind_some, j a _ (by omega) (l17 _), Option.bind_some, tab_app_left, tab_app_right, ← List.append_assoc, same, Option.bind_some, if_pos rfl]
        rw [j _ _ (l17 _) (l17 _), Option.bind_some, tab_mem (l := listOf (tabOf (a ++ b)) ++ listOf (tabOf (a ++ b))) (l' := listOf (tabOf (a ++ b))) (fun x => by simp), tab_tab, same, Option.bind_some, if_pos rfl]
        rw [o _ (l17 _), Option.bind_some, tab_tab, same, Option.bind_some, if_pos rfl]
        rw [o acc (by omega), Option.bind_some, o a (by omega), Option.bind_some, tab_mem hm, same, Option.bind_some]
      · rw [decide_eq_false cc]
        exact hT
    · rw [if_neg (by simpa using cb)]
      exact hT
  · rw [if_neg (by simpa using ca)]
    exact hT
end Go.Proofs.Ytejidnmgjccidaa.Pure
end
section
namespace Go.Proofs.Ytejidnmgjccidaa.priorityJoins
open Go.ChangeShapes Go.WideShapes Go.ChangeAt Go.RowKit
open Go.ChangeMaps (open_string shut_string)
open Go.Proofs.Ytejidnmgjccidaa.Opn Go.Proofs.YtejidnmgjccidaaW.PrintWords Go.Proofs.Ytejidnmgjccidaa.R
set_option linter.unusedVariables false
theorem own : ownKnob Try.prog.godebug = none := by kernel_rfl
theorem laidOut : laidOutB Try.prog = true := by kernel_rfl
set_option maxHeartbeats 2000000 in
set_option maxRecDepth 100000 in
theorem lifted (os : Os) (started : os.Started) (H : Type) (enc : TypeId × Value → H) :
    ReturnsInHanded {} Try.checked os 6 .any (Rows.priorityJoinsSpec.pre6 enc Try.prog Try.f6 Rows.priorityJoinsRow.domain false) (Rows.priorityJoinsSpec.post enc Try.prog Try.f6 false true false false) := by
  refine returnsInHanded_of_change_sized (C := Try.checked) own started (by kernel_rfl) Try.func6
    (ChangeSpec.witness6 (enc := enc) (C := Try.checked) false ⟨#[], #[.slice none 0 0, .slice none 0 0, .slice none 0 0], []⟩ 8 (by kernel_rfl) (by kernel_rfl) (by kernel_rfl) (by kernel_rfl)) ?_
  intro W base args ds gs before hval0 hW hcnd hsz0 _
  have hsz : (DataW.weightsEach Try.prog (Try.f6.params.toList ++ Rows.priorityJoinsSpec.plain.varTypes Try.prog) (ds ++ gs)).all (· ≤ reachBytes) = true := hsz0
  have hval : ∀ (j : Nat) t v, Try.f6.params[j]? = some t → args[j]? = some v → Value.okWide Try.prog W .any base t v := hval0
  have hW' := hW
  obtain ⟨p, q, hA0, hV, rfl, hfz, hnd⟩ := hW
  have hA : DataW.TrodAll enc Try.prog W 0 (fun _ => true) true Try.f6.params.toList args.toList ds p := hA0
  rw [Try.params6] at hA hval hsz
  obtain ⟨v0, vs0, d0, ds0, p0, q0, hargs, rfl, rfl, h0, r0⟩ := trodAll_cons hA
  obtain ⟨v1, vs1, d1, ds1, p1, q1, rfl, rfl, rfl, h1, r1⟩ := trodAll_cons r0
  obtain ⟨v2, vs2, d2, ds2, p2, q2, rfl, rfl, rfl, h2, r2⟩ := trodAll_cons r1
  obtain ⟨rfl, rfl, rfl⟩ := trodAll_nil r2
  obtain rfl : args = #[v0, v1, v2] := by cases args; simp_all
  obtain ⟨rfl, rfl⟩ := trodVars_none hV
  have k0 := h0
  have lt0 : ∀ x ∈ p0, x.block < W.heap.size := by obtain ⟨m, hm⟩ := k0; exact DataW.trod_lt m _ _ _ hm
  obtain ⟨b0, len0, cap0, hb0⟩ := okWide_slice Try.underlying26 (hval 0 26 v0 rfl rfl)
  obtain ⟨A0, c0, l0, hv0, hc0, hr0, hV0⟩ := arg_slice (opn_slice (B := 32) Try.underlying26 (by kernel_rfl) (by kernel_rfl) opn25) b0 len0 cap0 hb0 h0 (arg_weights hsz (j := 0) (t := 26) rfl rfl)
  clear hb0
  subst hv0
  have k1 := h1
  have lt1 : ∀ x ∈ p1, x.block < W.heap.size := by obtain ⟨m, hm⟩ := k1; exact DataW.trod_lt m _ _ _ hm
  obtain ⟨b1, len1, cap1, hb1⟩ := okWide_slice Try.underlying26 (hval 1 26 v1 rfl rfl)
  obtain ⟨A1, c1, l1, hv1, hc1, hr1, hV1⟩ := arg_slice (opn_slice (B := 32) Try.underlying26 (by kernel_rfl) (by kernel_rfl) opn25) b1 len1 cap1 hb1 h1 (arg_weights hsz (j := 1) (t := 26) rfl rfl)
  clear hb1
  subst hv1
  have k2 := h2
  have lt2 : ∀ x ∈ p2, x.block < W.heap.size := by obtain ⟨m, hm⟩ := k2; exact DataW.trod_lt m _ _ _ hm
  obtain ⟨b2, len2, cap2, hb2⟩ := okWide_slice Try.underlying26 (hval 2 26 v2 rfl rfl)
  obtain ⟨A2, c2, l2, hv2, hc2, hr2, hV2⟩ := arg_slice (opn_slice (B := 32) Try.underlying26 (by kernel_rfl) (by kernel_rfl) opn25) b2 len2 cap2 hb2 h2 (arg_weights hsz (j := 2) (t := 26) rfl rfl)
  clear hb2
  subst hv2
  clear hA0 hval0 hsz0 hsz
  obtain ⟨k, h⟩ := Pure.PriorityJoins l0 l1 l2 hV0 hV1 hV2
  refine (R.plenumlaw13_PriorityJoins.calls k A0 c0 l0 A1 c1 l1 A2 c2 l2 true W hr0 hc0 hr1 hc1 hr2 hc2 h).mono fun e W' ⟨he, bel0⟩ => ?_
  have bel : Below W.heap.size W W' := bel0
  subst he
  exact ⟨_, rfl, _, _, _, [], _, [], hW', trodAll_mk1 (shut_bool Try.underlying4 _), (trodAll_cons_mk (Below.trod laidOut (by kernel_rfl) (of_decide_eq_true (by kernel_rfl)) k0 bel lt0) (trodAll_cons_mk (Below.trod laidOut (by kernel_rfl) (of_decide_eq_true (by kernel_rfl)) k1 bel lt1) (trodAll_cons_mk (Below.trod laidOut (by kernel_rfl) (of_decide_eq_true (by kernel_rfl)) k2 bel lt2) trodAll_mk0))), rfl, bel.frame _, fun h => by cases h⟩
theorem over : Rows.priorityJoinsRow.holds Try.pinned (OpenSpec.ofChange Rows.priorityJoinsSpec) :=
  OpenClaim.holds_of_wide 6 Try.f6 rfl rfl rfl rfl rfl rfl rfl ⟨rfl, rfl, rfl, rfl, rfl⟩ rfl rfl rfl rfl rfl (by kernel_rfl) Try.func6 (by kernel_rfl)
    (of_decide_eq_true (by kernel_rfl)) (by unfold Func.isWrapper; first | (rw [if_pos (by decide +kernel)]; kernel_rfl) | (rw [if_neg (by decide +kernel)]; exact ⟨rfl, rfl⟩))
    (fun os started H enc _ => lifted os started H enc)
theorem proved : Rows.PriorityJoinsSaid := over
#print axioms proved
end Go.Proofs.Ytejidnmgjccidaa.priorityJoins
namespace Go.Proofs.Ytejidnmgjccidaa
theorem priorityJoins_holds : Rows.PriorityJoinsSaid := priorityJoins.proved
end Go.Proofs.Ytejidnmgjccidaa
end
