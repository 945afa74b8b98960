/- TrendRestoresCard: one part of the proof that the law answers true for every input, and that its arguments read afterwards as before. No condition. -/
import Derived.Test.YtbccjcdmpiolpaaDoorCRest1
import Derived.Outline
import Derived.Deep.OwnRows
import Derived.LoopTactic
section
namespace Go.Proofs.YtbccjcdmpiolpaaDoor.T
open Go.RowKit Go.Proofs.YtbccjcdmpiolpaaDoorW.PrintWords Go.Proofs.YtbccjcdmpiolpaaDoorW.PrintLast Go.Proofs.YtbccjcdmpiolpaaDoorW.PrintMore
attribute [local go_sem] max2_int min2_int max_two min_two max_three min_three max_four min_four
set_option linter.unusedVariables false
set_option linter.unusedSimpArgs false
def plenumref02_number.j0 : Nat → ByteArray → Int → Int → Bool → Option (ByteArray × Bool)
 | 0, _, _, _, _ => none
 | k + 1, x0, x1, x2, x27 => if x27 = true then (some ((⟨#[]⟩ : ByteArray), false)) else (if 0 ≤ x1 then (if x1 < (x0.size : Int) then (if (((bt x0 x1) - x2) % 256) > (wrap64 ((wrap64 ((x0.size : Int) - x1)) - 1)) then (some ((⟨#[]⟩ : ByteArray), false)) else (if 0 ≤ (wrap64 (x1 + 1)) then (if (wrap64 (x1 + 1)) ≤ (wrap64 ((wrap64 (x1 + 1)) + (((bt x0 x1) - x2) % 256))) then (if (wrap64 ((wrap64 (x1 + 1)) + (((bt x0 x1) - x2) % 256))) ≤ (x0.size : Int) then (some (x0.extract ((wrap64 (x1 + 1)) : Int).toNat ((wrap64 ((wrap64 (x1 + 1)) + (((bt x0 x1) - x2) % 256))) : Int).toNat, true)) else (none)) else (none)) else (none))) else (none)) else (none))
def plenumref02_number.f (k : Nat) (a0 : ByteArray) (a1 : Int) (a2 : Int) : Option (ByteArray × Bool) := if a1 ≥ (a0.size : Int) then (plenumref02_number.j0 k a0 a1 a2 true) else (if 0 ≤ a1 then (if a1 < (a0.size : Int) then (if (bt a0 a1) ≤ a2 then (plenumref02_number.j0 k a0 a1 a2 true) else (plenumref02_number.j0 k a0 a1 a2 (decide ((bt a0 a1) > ((a2 + 8) % 256))))) else (none)) else (none))
set_option maxHeartbeats 8000000 in
set_option maxRecDepth 100000 in
theorem plenumref02_number.calls (k : Nat) (a0 : ByteArray) (a1 : Int) (a2 : Int) (r1 : ByteArray) (r2 : Bool) (w : World) (hG : Glob w) (h : plenumref02_number.f k a0 a1 a2 = some (r1, r2)) :
  Calls Tryd.prog 74 #[.string a0, .int .i64 a1, .int .u8 a2] w fun e w' => e = .returned (.tuple #[.string r1, .bool r2]) ∧ Drawn0 w w' := by
 have HG := Aside0.mk hG
 clear hG
 have H : (if a1 ≥ (a0.size : Int) then (plenumref02_number.j0 k a0 a1 a2 true) else (if 0 ≤ a1 then (if a1 < (a0.size : Int) then (if (bt a0 a1) ≤ a2 then (plenumref02_number.j0 k a0 a1 a2 true) else (plenumref02_number.j0 k a0 a1 a2 (decide ((bt a0 a1) > ((a2 + 8) % 256))))) else (none)) else (none))) = some (r1, r2) := h
 clear h
 have HC4 := Aside0.mk H
 clear H
 go_enter Tryd.func74, Tryd.ntmps74
 go_upto_region 1 with (fail)
 go_cut [27] (fun v27 wc => ∃ (kq : Nat) (x27_3 : Bool), v27 = .bool x27_3 ∧ Aside0 (plenumref02_number.j0 kq a0 a1 a2 x27_3 = some (r1, r2)) ∧ Aside0 (kq ≤ k) ∧ Drawn0 w wc)
 case first =>
  have H := HC4.out
  clear HC4
  by_cases c5 : a1 ≥ (a0.size : Int)
  ·rw [if_pos c5] at H
   have c5b0 : decide ((a0.size : Int) ≤ a1) = true := decide_eq_true c5
   clear c5
   (first | rw [c5b0] | (simp only [i64_w, i32_w]; rw [c5b0]) | skip)
   have H' := Aside0.mk H
   clear H
   go_wp2
   go_meet
   case rel => exact ⟨_, (true), (by first | rfl | (simp; done) | (simp [*]; done)), H', ⟨by first | omega | exact Nat.le_refl _⟩, by repeat (first | exact Drawn0.refl _ | apply Drawn0.step)⟩
  ·rw [if_neg c5] at H
   have c5b0 : decide ((a0.size : Int) ≤ a1) = false := decide_eq_false c5
   clear c5
   (first | rw [c5b0] | (simp only [i64_w, i32_w]; rw [c5b0]) | skip)
   by_cases c6 : 0 ≤ a1
   ·rw [if_pos c6] at H
    have c6b0 : decide (0 ≤ a1) = true := decide_eq_true c6
    clear c6
    by_cases c7 : a1 < (a0.size : Int)
    ·rw [if_pos c7] at H
     have c7b0 : decide (a1 < (a0.size : Int)) = true := decide_eq_true c7
     clear c7
     by_cases c9 : (bt a0 a1) ≤ a2
     ·rw [if_pos c9] at H
      have c9b0 : decide ((bt a0 a1) ≤ a2) = true := decide_eq_true c9
      clear c9
      have H' := Aside0.mk H
      clear H
      have p8 : 0 ≤ (a1 : Int) := of_decide_eq_true (by first | (with_reducible assumption) | assumption)
      have q8 : a1 < (a0.size : Int) := of_decide_eq_true (by first | (with_reducible assumption) | assumption)
      have hx8 := bt_at a0 a1
      replace p8 := eq_true p8
      replace q8 := eq_true q8
      go_wp2
      go_meet
      case rel => exact ⟨_, (true), (by first | rfl | (simp; done) | (simp [*]; done)), H', ⟨by first | omega | exact Nat.le_refl _⟩, by repeat (first | exact Drawn0.refl _ | apply Drawn0.step)⟩
     ·rw [if_neg c9] at H
      have c9b0 : decide ((bt a0 a1) ≤ a2) = false := decide_eq_false c9
      clear c9
      have H' := Aside0.mk H
      clear H
      have p8 : 0 ≤ (a1 : Int) := of_decide_eq_true (by first | (with_reducible assumption) | assumption)
      have q8 : a1 < (a0.size : Int) := of_decide_eq_true (by first | (with_reducible assumption) | assumption)
      have hx8 := bt_at a0 a1
      replace p8 := eq_true p8
      replace q8 := eq_true q8
      have p10 : 0 ≤ (a1 : Int) := of_decide_eq_true (by first | (with_reducible assumption) | assumption)
      have q10 : a1 < (a0.size : Int) := of_decide_eq_true (by first | (with_reducible assumption) | assumption)
      have hx10 := bt_at a0 a1
      replace p10 := eq_true p10
      replace q10 := eq_true q10
      go_wp2
      go_meet
      case rel => exact ⟨_, (decide ((bt a0 a1) > ((a2 + 8) % 256))), (by first | rfl | (simp; done) | (simp [*]; done)), H', ⟨by first | omega | exact Nat.le_refl _⟩, by repeat (first | exact Drawn0.refl _ | apply Drawn0.step)⟩
    ·rw [if_neg c7] at H
     exact absurd H (by simp)
   ·rw [if_neg c6] at H
    exact absurd H (by simp)
 case rest =>
  clear HC4
  try clear p1
  try clear q1
  try clear hx1
  try clear p2
  try clear c5
  try clear c5b0
  try clear c6
  try clear c6b0
  try clear c7
  try clear c7b0
  try clear p8
  try clear q8
  try clear hx8
  try clear c9
  try clear c9b0
  try clear p10
  try clear q10
  try clear hx10
  try clear p10
  try clear p8
  try clear q10
  try clear q8
  obtain ⟨kq, x27_3, rfl, HA, HJ3, ⟨mc3, rfl⟩⟩ := hcut
  cases kq with
  | zero => exact absurd HA.out (by simp [plenumref02_number.j0])
  | succ kj3 =>
   have H := HA.out
   clear HA
   simp only [plenumref02_number.j0] at H
   by_cases c11 : x27_3 = true
   ·subst c11
    have H1 : (some ((⟨#[]⟩ : ByteArray), false)) = some (r1, r2) := by rw [if_pos rfl] at H; exact H
    clear H
    have H := H1
    clear H1
    simp only [Option.some.injEq, Prod.mk.injEq] at H
    obtain ⟨rfl, rfl⟩ := H
    go_wp2
    go_ret2
    exact ⟨by first | rfl | (simp; done) | (simp [*]; done), by repeat (first | exact Drawn0.refl _ | apply Drawn0.step)⟩
   ·replace c11 := Bool.eq_false_iff.mpr c11
    subst c11
    have H1 : (if 0 ≤ a1 then (if a1 < (a0.size : Int) then (if (((bt a0 a1) - a2) % 256) > (wrap64 ((wrap64 ((a0.size : Int) - a1)) - 1)) then (some ((⟨#[]⟩ : ByteArray), false)) else (if 0 ≤ (wrap64 (a1 + 1)) then (if (wrap64 (a1 + 1)) ≤ (wrap64 ((wrap64 (a1 + 1)) + (((bt a0 a1) - a2) % 256))) then (if (wrap64 ((wrap64 (a1 + 1)) + (((bt a0 a1) - a2) % 256))) ≤ (a0.size : Int) then (some (a0.extract ((wrap64 (a1 + 1)) : Int).toNat ((wrap64 ((wrap64 (a1 + 1)) + (((bt a0 a1) - a2) % 256))) : Int).toNat, true)) else (none)) else (none)) else (none))) else (none)) else (none)) = some (r1, r2) := by rw [if_neg (show ¬ (false = true) by decide)] at H; exact H
    clear H
    have H := H1
    clear H1
    by_cases c12 : 0 ≤ a1
    ·rw [if_pos c12] at H
     have c12b0 : decide (0 ≤ a1) = true := decide_eq_true c12
     clear c12
     by_cases c13 : a1 < (a0.size : Int)
     ·rw [if_pos c13] at H
      have c13b0 : decide (a1 < (a0.size : Int)) = true := decide_eq_true c13
      clear c13
      by_cases c15 : (((bt a0 a1) - a2) % 256) > (wrap64 ((wrap64 ((a0.size : Int) - a1)) - 1))
      ·rw [if_pos c15] at H
       have c15b0 : decide ((wrap64 ((wrap64 ((a0.size : Int) - a1)) - 1)) < (((bt a0 a1) - a2) % 256)) = true := decide_eq_true c15
       clear c15
       simp only [Option.some.injEq, Prod.mk.injEq] at H
       obtain ⟨rfl, rfl⟩ := H
       have p14 : 0 ≤ (a1 : Int) := of_decide_eq_true (by first | (with_reducible assumption) | assumption)
       have q14 : a1 < (a0.size : Int) := of_decide_eq_true (by first | (with_reducible assumption) | assumption)
       have hx14 := bt_at a0 a1
       replace p14 := eq_true p14
       replace q14 := eq_true q14
       go_wp2
       go_ret2
       exact ⟨by first | rfl | (simp; done) | (simp [*]; done), by repeat (first | exact Drawn0.refl _ | apply Drawn0.step)⟩
      ·rw [if_neg c15] at H
       have c15b0 : decide ((wrap64 ((wrap64 ((a0.size : Int) - a1)) - 1)) < (((bt a0 a1) - a2) % 256)) = false := decide_eq_false c15
       clear c15
       obtain ⟨ji16, hji16⟩ : ∃ j_ : Int, (wrap64 (a1 + 1)) = j_ := ⟨_, rfl⟩
       replace H : (if 0 ≤ (ji16) then (if (ji16) ≤ (wrap64 ((ji16) + (((bt a0 a1) - a2) % 256))) then (if (wrap64 ((ji16) + (((bt a0 a1) - a2) % 256))) ≤ (a0.size : Int) then (some (a0.extract ((ji16) : Int).toNat ((wrap64 ((ji16) + (((bt a0 a1) - a2) % 256))) : Int).toNat, true)) else (none)) else (none)) else (none)) = some (r1, r2) := by first | (rw [hji16] at H; exact H) | (simp only [hji16] at H ⊢; exact H)
       have hji16w : (IntKind.i64.wrap (a1 + 1)) = ji16 := (i64_w _).trans hji16
       by_cases c17 : 0 ≤ (ji16)
       ·rw [if_pos c17] at H
        have c17b0 := eq_true c17
        have c17b1 : decide (0 ≤ (ji16)) = true := decide_eq_true c17
        clear c17
        by_cases c18 : (ji16) ≤ (wrap64 ((ji16) + (((bt a0 a1) - a2) % 256)))
        ·rw [if_pos c18] at H
         have c18b0 := eq_true c18
         have c18b1 : decide ((ji16) ≤ (wrap64 ((ji16) + (((bt a0 a1) - a2) % 256)))) = true := decide_eq_true c18
         by_cases c19 : (wrap64 ((ji16) + (((bt a0 a1) - a2) % 256))) ≤ (a0.size : Int)
         ·rw [if_pos c19] at H
          have c19b0 := eq_true c19
          have c19b1 : decide ((wrap64 ((ji16) + (((bt a0 a1) - a2) % 256))) ≤ (a0.size : Int)) = true := decide_eq_true c19
          simp only [Option.some.injEq, Prod.mk.injEq] at H
          obtain ⟨rfl, rfl⟩ := H
          have p14 : 0 ≤ (a1 : Int) := of_decide_eq_true (by first | (with_reducible assumption) | assumption)
          have q14 : a1 < (a0.size : Int) := of_decide_eq_true (by first | (with_reducible assumption) | assumption)
          have hx14 := bt_at a0 a1
          replace p14 := eq_true p14
          replace q14 := eq_true q14
          go_wp2
          go_ret2
          exact ⟨by first | rfl | (simp; done) | (simp only [← hji16] <;> (first | rfl | simp)) | (simp [*]; done), by repeat (first | exact Drawn0.refl _ | apply Drawn0.step)⟩
         ·rw [if_neg c19] at H
          exact absurd H (by simp)
        ·rw [if_neg c18] at H
         exact absurd H (by simp)
       ·rw [if_neg c17] at H
        exact absurd H (by simp)
     ·rw [if_neg c13] at H
      exact absurd H (by simp)
    ·rw [if_neg c12] at H
     exact absurd H (by simp)
end Go.Proofs.YtbccjcdmpiolpaaDoor.T
end
section
namespace Go.Proofs.YtbccjcdmpiolpaaDoor.T
open Go.RowKit Go.Proofs.YtbccjcdmpiolpaaDoorW.PrintWords Go.Proofs.YtbccjcdmpiolpaaDoorW.PrintLast Go.Proofs.YtbccjcdmpiolpaaDoorW.PrintMore
attribute [local go_sem] max2_int min2_int max_two min_two max_three min_three max_four min_four
set_option linter.unusedVariables false
set_option linter.unusedSimpArgs false
def plenumref02_Unsigned.l0 : Nat → Int → List Int → Option (ByteArray)
 | 0, _, _ => none
 | k + 1, x0, x3 => if x0 > 255 then ((some (([(IntKind.u64.wrap (Int.tdiv x0 256)) % 256] : List Int) : List Int)).bind fun y183 => (if y183.length + x3.length < 140737488355328 then (plenumref02_Unsigned.l0 k (IntKind.u64.wrap (Int.tdiv x0 256)) (y183 ++ x3)) else (none))) else ((some (([(wrap64 (16 + (x3.length : Int))) % 256] : List Int) : List Int)).bind fun y189 => (if y189.length + x3.length < 140737488355328 then (some (strOfNums (y189 ++ x3))) else (none)))
def plenumref02_Unsigned.f (k : Nat) (a0 : Int) : Option (ByteArray) := plenumref02_Unsigned.l0 k a0 (([(a0) % 256] : List Int))
set_option maxHeartbeats 8000000 in
set_option maxRecDepth 100000 in
theorem plenumref02_Unsigned.calls (k : Nat) (a0 : Int) (r : ByteArray) (w : World) (hG : Glob w) (h : plenumref02_Unsigned.f k a0 = some r) :
  Calls Tryd.prog 75 #[.int .u64 a0] w fun e w' => e = .returned (.string r) ∧ Below w.heap.size w w' := by
 have HG := Aside0.mk hG
 clear hG
 have HB := Aside0.mk (Below.refl w.heap.size w)
 have H : (plenumref02_Unsigned.l0 k a0 (([(a0) % 256] : List Int))) = some r := h
 clear h
 obtain ⟨y180, hy180⟩ : ∃ y_ : List Int, y_ = (([(a0) % 256] : List Int)) := ⟨_, rfl⟩
 replace H : (plenumref02_Unsigned.l0 k a0 y180) = some r := by first | (rw [hy180]; with_reducible exact H) | (have H2_ := (Option.bind_some _ _).symm.trans H; rw [hy180]; with_reducible exact H2_) | (have H2_ := (Option.bind_some _ _).symm.trans H; with_reducible exact H2_) | with_reducible exact H | (rw [hy180]; exact H) | exact H
 have Ny180 := Aside0.mk hy180
 clear hy180
 have H' := Aside0.mk H
 clear H
 go_enter Tryd.func75, Tryd.ntmps75
 go_wp2_with (first | ((with_reducible refine gate_dst (N := 6) rfl ?_); refine Kd.R_lit (Kd.int .u8) _ 5 ?hg (N := 6) ?hd (xs := ([(a0) % 256] : List Int)) (inner := [.int .u8 ((a0) % 256)]) (ok := fun _ => True) (okp := fun _ => True) ?hr ?hp (fun _ hk => hk) trivial (Below.refl _ _) (Nat.le_refl _) (by simp) ?_; (case hd => rfl); (case hg => rfl); (case hr => first | (go_simp; done) | (go_simp; rfl)); (case hp => exact (Reps.one (show Kd.M (Kd.int .u8) _ _ _ ((a0) % 256) [.int .u8 ((a0) % 256)] from rfl) (Reps.none _ _))); intro v181 w2 ho3 hb hg_ hnew_; clear hg_ hnew_; (first | rw [← Ny180.out] at ho3 | (simp only [Int.reduceToNat] at ho3; rw [← Ny180.out] at ho3)); have n0_ := Aside0.mk (Kd.R_lower ho3 (below_size (by repeat (first | (with_reducible first | exact HB.out | apply below_alloc | apply pw_below_drewN | apply below_drew1) | exact HB.out)))); have n1_ := Aside0.mk (below_step (by repeat (first | (with_reducible first | exact HB.out | apply below_alloc | apply pw_below_drewN | apply below_drew1) | exact HB.out)) hb); clear HB; have HO182 := n0_; have HB := n1_; clear n0_ n1_; clear hb ho3))
 go_loopg [0, 3] k (fun kq v0 v3 w' => ∃ (x0_1 : Int) (x3_1 : List Int), v0 = .int .u64 x0_1 ∧ Aside0 (plenumref02_Unsigned.l0 kq x0_1 x3_1 = some r) ∧ Aside0 (kq ≤ k) ∧ Aside0 (Kd.R (Kd.int .u8) 5 w' w.heap.size (fun _ => True) v3 x3_1) ∧ Aside0 (Below w.heap.size w w'))
 case atStart => exact ⟨(a0), (y180), (by first | rfl | (simp; done) | (simp [*]; done)), H', ⟨Nat.le_refl _⟩, ⟨by (with_reducible repeat (first | apply Kd.R_alloc | apply Kd.R_drewN | apply Kd.R_drew)); exact HO182.out⟩, ⟨by repeat (first | (with_reducible first | exact HB.out | apply below_alloc | apply pw_below_drewN | apply below_drew1) | exact HB.out)⟩⟩
 case round =>
  clear H'
  try clear p2
  obtain ⟨x0_1, x3_1, rfl, HA, HK1, HO_3, HB⟩ := hrel
  cases gk with
  | zero => exact absurd HA.out (by simp [plenumref02_Unsigned.l0])
  | succ k1 =>
   have H := HA.out
   clear HA
   simp only [plenumref02_Unsigned.l0] at H
   by_cases c4 : x0_1 > 255
   ·rw [if_pos c4] at H
    have c4b0 : decide (255 < x0_1) = true := decide_eq_true c4
    clear c4
    obtain ⟨y183, hy183⟩ : ∃ y_ : List Int, y_ = (([(IntKind.u64.wrap (Int.tdiv x0_1 256)) % 256] : List Int)) := ⟨_, rfl⟩
    replace H : (if y183.length + x3_1.length < 140737488355328 then (plenumref02_Unsigned.l0 k1 (IntKind.u64.wrap (Int.tdiv x0_1 256)) (y183 ++ x3_1)) else (none)) = some r := by first | (rw [hy183]; with_reducible exact H) | (have H2_ := (Option.bind_some _ _).symm.trans H; rw [hy183]; with_reducible exact H2_) | (have H2_ := (Option.bind_some _ _).symm.trans H; with_reducible exact H2_) | with_reducible exact H | (rw [hy183]; exact H) | exact H
    have Ny183 := Aside0.mk hy183
    clear hy183
    by_cases c5 : y183.length + x3_1.length < 140737488355328
    ·rw [if_pos c5] at H
     have LMc5 := Aside0.mk c5
     clear c5
     obtain ⟨y186, hy186⟩ : ∃ y_ : List Int, y_ = (y183 ++ x3_1) := ⟨_, rfl⟩
     replace H : (plenumref02_Unsigned.l0 k1 (IntKind.u64.wrap (Int.tdiv x0_1 256)) y186) = some r := by first | (rw [hy186]; with_reducible exact H) | (have H2_ := (Option.bind_some _ _).symm.trans H; rw [hy186]; with_reducible exact H2_) | (have H2_ := (Option.bind_some _ _).symm.trans H; with_reducible exact H2_) | with_reducible exact H | (rw [hy186]; exact H) | exact H
     have Ny186 := Aside0.mk hy186
     clear hy186
     have H' := Aside0.mk H
     clear H
     go_wp2_with (first | ((with_reducible refine gate_dst (N := 13) rfl ?_); refine Kd.R_lit (Kd.int .u8) _ 5 ?hg (N := 13) ?hd (xs := ([(IntKind.u64.wrap (Int.tdiv x0_1 256)) % 256] : List Int)) (inner := [.int .u8 ((IntKind.u64.wrap (Int.tdiv x0_1 256)) % 256)]) (ok := fun _ => True) (okp := fun _ => True) ?hr ?hp (fun _ hk => hk) trivial (Below.refl _ _) (Nat.le_refl _) (by simp) ?_; (case hd => rfl); (case hg => rfl); (case hr => first | (go_simp; done) | (go_simp; rfl)); (case hp => exact (Reps.one (show Kd.M (Kd.int .u8) _ _ _ ((IntKind.u64.wrap (Int.tdiv x0_1 256)) % 256) [.int .u8 ((IntKind.u64.wrap (Int.tdiv x0_1 256)) % 256)] from rfl) (Reps.none _ _))); intro v184 w6 ho7 hb hg_ hnew_; clear hg_ hnew_; (first | rw [← Ny183.out] at ho7 | (simp only [Int.reduceToNat] at ho7; rw [← Ny183.out] at ho7)); have n0_ := Aside0.mk (Kd.R_elder' (by (with_reducible repeat (first | apply Kd.R_alloc | apply Kd.R_drewN | apply Kd.R_drew)); exact HO_3.out) (Kd.R_base ho7) hb); have n1_ := Aside0.mk (Kd.R_lower (Kd.R_new' ho7 (Kd.R_lt (by (with_reducible repeat (first | apply Kd.R_alloc | apply Kd.R_drewN | apply Kd.R_drew)); exact HO_3.out))) (below_size (by repeat (first | (with_reducible first | exact HB.out | apply below_alloc | apply pw_below_drewN | apply below_drew1) | exact HB.out)))); have n2_ := Aside0.mk (below_step (by repeat (first | (with_reducible first | exact HB.out | apply below_alloc | apply pw_below_drewN | apply below_drew1) | exact HB.out)) hb); clear HO_3; clear HB; have HO_3 := n0_; have HO185 := n1_; have HB := n2_; clear n0_ n1_ n2_; clear hb ho7; obtain ⟨Ao9, co9, eo9⟩ := Kd.R_slice HO_3.out; subst eo9) | ((with_reducible refine gate_builtin (b := .append) (xs := #[.tmp 13, .tmp 14]) rfl ?_); at_builtin; refine Kd.R_append_rows (Kd.int .u8) (w0 := w) w.heap.size rfl (.tmp 13) (.tmp 14) 88 5 (.int .u8 0) 1 rfl Tryd.underlying88 info5 rfl (by decide) (by omega) v184 y183 x3_1 _ _ _ (fun k_ => some k_ ≠ (.slice Ao9 x3_1.length co9 : Value).ownBlock) (fun _ => False) rfl rfl ?aO ?aR (fun _ _ h => h) (fun _ h => h.elim) ?aF ?aB ?aS ?aL ?_; (case aR => repeat (first | exact (Kd.R_reads' HO_3.out).2.2 | (with_reducible refine Kd.C_alloc ?_ _) | (with_reducible refine Kd.C_drewN ?_ _) | (with_reducible refine Kd.C_drew ?_))); (case aB => exact (by repeat (first | (with_reducible first | exact HB.out | apply below_alloc | apply pw_below_drewN | apply below_drew1) | exact HB.out))); (case aF => exact (fun k_ hk => Kd.fresh' (Kd.R_lt (by (with_reducible repeat (first | apply Kd.R_alloc | apply Kd.R_drewN | apply Kd.R_drew)); exact HO_3.out)) k_ hk)); (case aO => exact (by (with_reducible repeat (first | apply Kd.R_alloc | apply Kd.R_drewN | apply Kd.R_drew)); exact Kd.R_mono HO185.out (fun _ hk => hk.2))); (case aS => exact (below_size (by repeat (first | (with_reducible first | exact HB.out | apply below_alloc | apply pw_below_drewN | apply below_drew1) | exact HB.out)))); (case aL => have := LMc5.out; first | omega | (simp only [ByteArray.size, List.size_toArray, List.length_cons, List.length_nil] at this ⊢; omega)); intro v187 w8 ho hb hg hat; rw [← Ny186.out] at ho; have n0_ := Aside0.mk (Kd.R_after (ok := (fun _ => True)) (by (with_reducible repeat (first | apply Kd.R_alloc | apply Kd.R_drewN | apply Kd.R_drew)); exact HO_3.out) hg hat); have n1_ := Aside0.mk (hb); have n2_ := Aside0.mk (ho); clear HO_3; clear HB; clear HO185; have HO_3 := n0_; have HB := n1_; have HO188 := n2_; clear n0_ n1_ n2_; clear ho hb hg hat))
     go_roundg k1
     case measure => have := HK1.out; omega
     case rel => exact ⟨(IntKind.u64.wrap (Int.tdiv x0_1 256)), (y186), (by first | rfl | (simp; done) | (simp [*]; done)), H', ⟨by have := HK1.out; omega⟩, ⟨by (with_reducible repeat (first | apply Kd.R_alloc | apply Kd.R_drewN | apply Kd.R_drew)); exact Kd.R_mono HO188.out (fun _ hk => trivial)⟩, ⟨by repeat (first | (with_reducible first | exact HB.out | apply below_alloc | apply pw_below_drewN | apply below_drew1) | exact HB.out)⟩⟩
    ·rw [if_neg c5] at H
     exact absurd H (by simp)
   ·rw [if_neg c4] at H
    have c4b0 : decide (255 < x0_1) = false := decide_eq_false c4
    clear c4
    obtain ⟨y189, hy189⟩ : ∃ y_ : List Int, y_ = (([(wrap64 (16 + (x3_1.length : Int))) % 256] : List Int)) := ⟨_, rfl⟩
    replace H : (if y189.length + x3_1.length < 140737488355328 then (some (strOfNums (y189 ++ x3_1))) else (none)) = some r := by first | (rw [hy189]; with_reducible exact H) | (have H2_ := (Option.bind_some _ _).symm.trans H; rw [hy189]; with_reducible exact H2_) | (have H2_ := (Option.bind_some _ _).symm.trans H; with_reducible exact H2_) | with_reducible exact H | (rw [hy189]; exact H) | exact H
    have Ny189 := Aside0.mk hy189
    clear hy189
    by_cases c10 : y189.length + x3_1.length < 140737488355328
    ·rw [if_pos c10] at H
     have LMc10 := Aside0.mk c10
     clear c10
     obtain ⟨y192, hy192⟩ : ∃ y_ : List Int, y_ = (y189 ++ x3_1) := ⟨_, rfl⟩
     replace H : (some (strOfNums y192)) = some r := by first | (rw [hy192]; with_reducible exact H) | (have H2_ := (Option.bind_some _ _).symm.trans H; rw [hy192]; with_reducible exact H2_) | (have H2_ := (Option.bind_some _ _).symm.trans H; with_reducible exact H2_) | with_reducible exact H | (rw [hy192]; exact H) | exact H
     have Ny192 := Aside0.mk hy192
     clear hy192
     obtain rfl := Option.some.inj H
     obtain ⟨Ao11, co11, eo11⟩ := Kd.R_slice HO_3.out
     subst eo11
     go_wp2_with (first | ((with_reducible refine gate_dst (N := 20) rfl ?_); refine Kd.R_lit (Kd.int .u8) _ 5 ?hg (N := 20) ?hd (xs := ([(wrap64 (16 + (x3_1.length : Int))) % 256] : List Int)) (inner := [.int .u8 ((wrap64 (16 + (x3_1.length : Int))) % 256)]) (ok := fun _ => True) (okp := fun _ => True) ?hr ?hp (fun _ hk => hk) trivial (Below.refl _ _) (Nat.le_refl _) (by simp) ?_; (case hd => rfl); (case hg => rfl); (case hr => first | (go_simp; done) | (go_simp; rfl)); (case hp => exact (Reps.one (show Kd.M (Kd.int .u8) _ _ _ ((wrap64 (16 + (x3_1.length : Int))) % 256) [.int .u8 ((wrap64 (16 + (x3_1.length : Int))) % 256)] from rfl) (Reps.none _ _))); intro v190 w12 ho13 hb hg_ hnew_; clear hg_ hnew_; (first | rw [← Ny189.out] at ho13 | (simp only [Int.reduceToNat] at ho13; rw [← Ny189.out] at ho13)); have n0_ := Aside0.mk (Kd.R_elder' (by (with_reducible repeat (first | apply Kd.R_alloc | apply Kd.R_drewN | apply Kd.R_drew)); exact HO_3.out) (Kd.R_base ho13) hb); have n1_ := Aside0.mk (Kd.R_lower (Kd.R_new' ho13 (Kd.R_lt (by (with_reducible repeat (first | apply Kd.R_alloc | apply Kd.R_drewN | apply Kd.R_drew)); exact HO_3.out))) (below_size (by repeat (first | (with_reducible first | exact HB.out | apply below_alloc | apply pw_below_drewN | apply below_drew1) | exact HB.out)))); have n2_ := Aside0.mk (below_step (by repeat (first | (with_reducible first | exact HB.out | apply below_alloc | apply pw_below_drewN | apply below_drew1) | exact HB.out)) hb); clear HO_3; clear HB; have HO_3 := n0_; have HO191 := n1_; have HB := n2_; clear n0_ n1_ n2_; clear hb ho13) | ((with_reducible refine gate_builtin (b := .append) (xs := #[.tmp 20, .tmp 21]) rfl ?_); at_builtin; refine Kd.R_append_rows (Kd.int .u8) (w0 := w) w.heap.size rfl (.tmp 20) (.tmp 21) 88 5 (.int .u8 0) 1 rfl Tryd.underlying88 info5 rfl (by decide) (by omega) v190 y189 x3_1 _ _ _ (fun k_ => some k_ ≠ (.slice Ao11 x3_1.length co11 : Value).ownBlock) (fun _ => False) rfl rfl ?aO ?aR (fun _ _ h => h) (fun _ h => h.elim) ?aF ?aB ?aS ?aL ?_; (case aR => repeat (first | exact (Kd.R_reads' HO_3.out).2.2 | (with_reducible refine Kd.C_alloc ?_ _) | (with_reducible refine Kd.C_drewN ?_ _) | (with_reducible refine Kd.C_drew ?_))); (case aB => exact (by repeat (first | (with_reducible first | exact HB.out | apply below_alloc | apply pw_below_drewN | apply below_drew1) | exact HB.out))); (case aF => exact (fun k_ hk => Kd.fresh' (Kd.R_lt (by (with_reducible repeat (first | apply Kd.R_alloc | apply Kd.R_drewN | apply Kd.R_drew)); exact HO_3.out)) k_ hk)); (case aO => exact (by (with_reducible repeat (first | apply Kd.R_alloc | apply Kd.R_drewN | apply Kd.R_drew)); exact Kd.R_mono HO191.out (fun _ hk => hk.2))); (case aS => exact (below_size (by repeat (first | (with_reducible first | exact HB.out | apply below_alloc | apply pw_below_drewN | apply below_drew1) | exact HB.out)))); (case aL => have := LMc10.out; first | omega | (simp only [ByteArray.size, List.size_toArray, List.length_cons, List.length_nil] at this ⊢; omega)); intro v193 w14 ho hb hg hat; rw [← Ny192.out] at ho; have n0_ := Aside0.mk (Kd.R_after (ok := (fun _ => True)) (by (with_reducible repeat (first | apply Kd.R_alloc | apply Kd.R_drewN | apply Kd.R_drew)); exact HO_3.out) hg hat); have n1_ := Aside0.mk (hb); have n2_ := Aside0.mk (ho); clear HO_3; clear HB; clear HO191; have HO_3 := n0_; have HB := n1_; have HO194 := n2_; clear n0_ n1_ n2_; clear ho hb hg hat; have hcv15 := own_string (P := Tryd.prog) Tryd.underlying88 Tryd.underlying5 Tryd.underlying9 (Kd.own_of_R HO194.out)))
     go_ret
     exact ⟨by first | rfl | (simp [errW_none, errW_some] <;> rfl) | (simp [*, errW_none, errW_some] <;> rfl), by repeat (first | (with_reducible first | exact HB.out | apply below_alloc | apply pw_below_drewN | apply below_drew1) | exact HB.out)⟩
    ·rw [if_neg c10] at H
     exact absurd H (by simp)
end Go.Proofs.YtbccjcdmpiolpaaDoor.T
end
section
namespace Go.Proofs.YtbccjcdmpiolpaaDoor.T
open Go.RowKit Go.Proofs.YtbccjcdmpiolpaaDoorW.PrintWords Go.Proofs.YtbccjcdmpiolpaaDoorW.PrintLast Go.Proofs.YtbccjcdmpiolpaaDoorW.PrintMore
attribute [local go_sem] max2_int min2_int max_two min_two max_three min_three max_four min_four
set_option linter.unusedVariables false
set_option linter.unusedSimpArgs false
def plenumref02_ReadUnsigned.l0 : Nat → Int → ByteArray → Bool → Int → Int → Option (Int × Int × Bool)
 | 0, _, _, _, _, _ => none
 | k + 1, x1, x7, x8, x9, x10 => if x10 < (x7.size : Int) then (if 0 ≤ x10 then (plenumref02_ReadUnsigned.l0 k x1 x7 x8 (Go.bits .or .u64 (IntKind.u64.wrap (x9 * 256)) (IntKind.u64.wrap (bt x7 x10))) (wrap64 (x10 + 1))) else (none)) else (if x8 = true then ((plenumref02_Unsigned.f k x9).bind fun t197 => (if (t197.size : Int) = (wrap64 ((x7.size : Int) + 1)) then (some (x9, wrap64 ((wrap64 (x1 + 1)) + (x7.size : Int)), true)) else (some (0, 0, false)))) else (some (0, 0, false)))
def plenumref02_ReadUnsigned.f (k : Nat) (a0 : ByteArray) (a1 : Int) : Option (Int × Int × Bool) := (plenumref02_number.f k a0 a1 16).bind fun bt195 => (plenumref02_ReadUnsigned.l0 k a1 bt195.1 bt195.2 0 0)
set_option maxHeartbeats 8000000 in
set_option maxRecDepth 100000 in
theorem plenumref02_ReadUnsigned.calls (k : Nat) (a0 : ByteArray) (a1 : Int) (r1 : Int) (r2 : Int) (r3 : Bool) (w : World) (hG : Glob w) (h : plenumref02_ReadUnsigned.f k a0 a1 = some (r1, r2, r3)) :
  Calls Tryd.prog 67 #[.string a0, .int .i64 a1] w fun e w' => e = .returned (.tuple #[.int .u64 r1, .int .i64 r2, .bool r3]) ∧ Below w.heap.size w w' := by
 have HG := Aside0.mk hG
 clear hG
 have HB := Aside0.mk (Below.refl w.heap.size w)
 have H : ((plenumref02_number.f k a0 a1 16).bind fun bt195 => (plenumref02_ReadUnsigned.l0 k a1 bt195.1 bt195.2 0 0)) = some (r1, r2, r3) := h
 clear h
 replace H := Option.bind_eq_some_iff.mp H
 obtain ⟨⟨t195, t196⟩, A30, H⟩ := H
 replace H : (plenumref02_ReadUnsigned.l0 k a1 t195 t196 0 0) = some (r1, r2, r3) := H
 have A3 := Aside0.mk A30
 clear A30
 have H' := Aside0.mk H
 clear H
 go_enter Tryd.func67, Tryd.ntmps67
 go_wp2_with (first | ((with_reducible refine gate_callee (f := 74) rfl ?_); refine goesL_ (some 14) rfl rfl Tryd.func74 (by kernel_rfl) rfl #[.string a0, .int .i64 a1, .int .u8 16] rfl (by (try simp only [List.map_toArray, List.map_cons, List.map_nil]); first | done | rfl | (simp only [List.length_drop, List.length_take]; rfl)) ?_; (with_reducible refine (plenumref02_number.calls k a0 a1 16 t195 t196 _ ?side99  A3.out).mono ?_); (case side99 => first | exact HG.out | exact Glob.below HG.out (by repeat (first | (with_reducible first | exact HB.out | apply below_alloc | apply pw_below_drewN | apply below_drew1) | exact HB.out))); rintro e w' ⟨rfl, ⟨nd, rfl⟩⟩; refine ⟨_, rfl, ?_⟩))
 go_loopg [9, 10] k (fun kq v9 v10 w' => ∃ (x9_1 : Int) (x10_1 : Int), v9 = .int .u64 x9_1 ∧ v10 = .int .i64 x10_1 ∧ Aside0 (plenumref02_ReadUnsigned.l0 kq a1 t195 t196 x9_1 x10_1 = some (r1, r2, r3)) ∧ Aside0 (kq ≤ k) ∧ Aside0 (Below w.heap.size w w'))
 case atStart => exact ⟨(0), (0), (by first | rfl | (simp; done) | (simp [*]; done)), (by first | rfl | (simp; done) | (simp [*]; done)), H', ⟨Nat.le_refl _⟩, ⟨by repeat (first | (with_reducible first | exact HB.out | apply below_alloc | apply pw_below_drewN | apply below_drew1) | exact HB.out)⟩⟩
 case round =>
  clear H'
  try clear p2
  obtain ⟨x9_1, x10_1, rfl, rfl, HA, HK1, HB⟩ := hrel
  cases gk with
  | zero => exact absurd HA.out (by simp [plenumref02_ReadUnsigned.l0])
  | succ k1 =>
   have H := HA.out
   clear HA
   simp only [plenumref02_ReadUnsigned.l0] at H
   by_cases c4 : x10_1 < (t195.size : Int)
   ·rw [if_pos c4] at H
    have c4b0 : decide (x10_1 < (t195.size : Int)) = true := decide_eq_true c4
    clear c4
    by_cases c5 : 0 ≤ x10_1
    ·rw [if_pos c5] at H
     have c5b0 : decide (0 ≤ x10_1) = true := decide_eq_true c5
     clear c5
     have H' := Aside0.mk H
     clear H
     have p6 : 0 ≤ (x10_1 : Int) := of_decide_eq_true (by first | (with_reducible assumption) | assumption)
     have q6 : x10_1 < (t195.size : Int) := of_decide_eq_true (by first | (with_reducible assumption) | assumption)
     have hx6 := bt_at t195 x10_1
     replace p6 := eq_true p6
     replace q6 := eq_true q6
     go_wp2
     go_roundg k1
     case measure => have := HK1.out; omega
     case rel => exact ⟨(Go.bits .or .u64 (IntKind.u64.wrap (x9_1 * 256)) (IntKind.u64.wrap (bt t195 x10_1))), (wrap64 (x10_1 + 1)), (by first | rfl | (simp; done) | (simp [*]; done)), (by first | rfl | (simp; done) | (simp [*]; done)), H', ⟨by have := HK1.out; omega⟩, ⟨by repeat (first | (with_reducible first | exact HB.out | apply below_alloc | apply pw_below_drewN | apply below_drew1) | exact HB.out)⟩⟩
    ·rw [if_neg c5] at H
     exact absurd H (by simp)
   ·rw [if_neg c4] at H
    have c4b0 : decide (x10_1 < (t195.size : Int)) = false := decide_eq_false c4
    clear c4
    by_cases c7 : t196 = true
    ·subst c7
     have H1 : ((plenumref02_Unsigned.f k1 x9_1).bind fun t197 => (if (t197.size : Int) = (wrap64 ((t195.size : Int) + 1)) then (some (x9_1, wrap64 ((wrap64 (a1 + 1)) + (t195.size : Int)), true)) else (some (0, 0, false)))) = some (r1, r2, r3) := by rw [if_pos rfl] at H; exact H
     clear H
     have H := H1
     clear H1
     replace H := Option.bind_eq_some_iff.mp H
     obtain ⟨t197, A80, H⟩ := H
     replace H : (if (t197.size : Int) = (wrap64 ((t195.size : Int) + 1)) then (some (x9_1, wrap64 ((wrap64 (a1 + 1)) + (t195.size : Int)), true)) else (some (0, 0, false))) = some (r1, r2, r3) := H
     have A8 := Aside0.mk A80
     clear A80
     by_cases c9 : (t197.size : Int) = (wrap64 ((t195.size : Int) + 1))
     ·rw [if_pos c9] at H
      have c9b0 : ((t197.size : Int) == (wrap64 ((t195.size : Int) + 1))) = true := beq_iff_eq.mpr c9
      have c9b1 : ((t197.size : Int) != (wrap64 ((t195.size : Int) + 1))) = false := bne_eq_false_iff_eq.mpr c9
      clear c9
      simp only [Option.some.injEq, Prod.mk.injEq] at H
      obtain ⟨rfl, rfl, rfl⟩ := H
      go_wp2_with (first | (go_at_call 75; (with_reducible refine (plenumref02_Unsigned.calls k1 x9_1 t197 _ ?side99  A8.out).mono ?_); (case side99 => first | exact HG.out | exact Glob.below HG.out (by repeat (first | (with_reducible first | exact HB.out | apply below_alloc | apply pw_below_drewN | apply below_drew1) | exact HB.out))); rintro e w10 ⟨rfl, hb⟩; have n0_ := Aside0.mk (below_step (by repeat (first | (with_reducible first | exact HB.out | apply below_alloc | apply pw_below_drewN | apply below_drew1) | exact HB.out)) hb); clear HB; have HB := n0_; clear n0_; (try clear hb); (try clear hb2); (try clear hk); (try clear hi)))
      go_ret3
      exact ⟨by first | rfl | (simp [errW_none, errW_some] <;> rfl) | (simp [*, errW_none, errW_some] <;> rfl), by repeat (first | (with_reducible first | exact HB.out | apply below_alloc | apply pw_below_drewN | apply below_drew1) | exact HB.out)⟩
     ·rw [if_neg c9] at H
      have c9b0 : ((t197.size : Int) == (wrap64 ((t195.size : Int) + 1))) = false := beq_eq_false_iff_ne.mpr c9
      have c9b1 : ((t197.size : Int) != (wrap64 ((t195.size : Int) + 1))) = true := bne_iff_ne.mpr c9
      simp only [Option.some.injEq, Prod.mk.injEq] at H
      obtain ⟨rfl, rfl, rfl⟩ := H
      go_wp2_with (first | (go_at_call 75; (with_reducible refine (plenumref02_Unsigned.calls k1 x9_1 t197 _ ?side99  A8.out).mono ?_); (case side99 => first | exact HG.out | exact Glob.below HG.out (by repeat (first | (with_reducible first | exact HB.out | apply below_alloc | apply pw_below_drewN | apply below_drew1) | exact HB.out))); rintro e w11 ⟨rfl, hb⟩; have n0_ := Aside0.mk (below_step (by repeat (first | (with_reducible first | exact HB.out | apply below_alloc | apply pw_below_drewN | apply below_drew1) | exact HB.out)) hb); clear HB; have HB := n0_; clear n0_; (try clear hb); (try clear hb2); (try clear hk); (try clear hi)))
      go_ret3
      exact ⟨by first | rfl | (simp [errW_none, errW_some] <;> rfl) | (simp [*, errW_none, errW_some] <;> rfl), by repeat (first | (with_reducible first | exact HB.out | apply below_alloc | apply pw_below_drewN | apply below_drew1) | exact HB.out)⟩
    ·replace c7 := Bool.eq_false_iff.mpr c7
     subst c7
     have H1 : (some (0, 0, false)) = some (r1, r2, r3) := by rw [if_neg (show ¬ (false = true) by decide)] at H; exact H
     clear H
     have H := H1
     clear H1
     simp only [Option.some.injEq, Prod.mk.injEq] at H
     obtain ⟨rfl, rfl, rfl⟩ := H
     go_wp2
     go_ret3
     exact ⟨by first | rfl | (simp [errW_none, errW_some] <;> rfl) | (simp [*, errW_none, errW_some] <;> rfl), by repeat (first | (with_reducible first | exact HB.out | apply below_alloc | apply pw_below_drewN | apply below_drew1) | exact HB.out)⟩
end Go.Proofs.YtbccjcdmpiolpaaDoor.T
end
section
namespace Go.Proofs.YtbccjcdmpiolpaaDoor.T
open Go.RowKit Go.Proofs.YtbccjcdmpiolpaaDoorW.PrintWords Go.Proofs.YtbccjcdmpiolpaaDoorW.PrintLast Go.Proofs.YtbccjcdmpiolpaaDoorW.PrintMore
attribute [local go_sem] max2_int min2_int max_two min_two max_three min_three max_four min_four
set_option linter.unusedVariables false
set_option linter.unusedSimpArgs false
def plenumref02_Signed.l0 : Nat → Int → List Int → Option (ByteArray)
 | 0, _, _ => none
 | k + 1, x0, x3 => if x0 < (-128) then ((some (([(x0 / 256) % 256] : List Int) : List Int)).bind fun y219 => (if y219.length + x3.length < 140737488355328 then (plenumref02_Signed.l0 k (x0 / 256) (y219 ++ x3)) else (none))) else (if x0 > 127 then ((some (([(x0 / 256) % 256] : List Int) : List Int)).bind fun y225 => (if y225.length + x3.length < 140737488355328 then (plenumref02_Signed.l0 k (x0 / 256) (y225 ++ x3)) else (none))) else ((some (([(wrap64 (32 + (x3.length : Int))) % 256] : List Int) : List Int)).bind fun y231 => (if y231.length + x3.length < 140737488355328 then (some (strOfNums (y231 ++ x3))) else (none))))
def plenumref02_Signed.f (k : Nat) (a0 : Int) : Option (ByteArray) := plenumref02_Signed.l0 k a0 (([(a0) % 256] : List Int))
set_option maxHeartbeats 8000000 in
set_option maxRecDepth 100000 in
theorem plenumref02_Signed.calls (k : Nat) (a0 : Int) (r : ByteArray) (w : World) (hG : Glob w) (h : plenumref02_Signed.f k a0 = some r) :
  Calls Tryd.prog 76 #[.int .i64 a0] w fun e w' => e = .returned (.string r) ∧ Below w.heap.size w w' := by
 have HG := Aside0.mk hG
 clear hG
 have HB := Aside0.mk (Below.refl w.heap.size w)
 have H : (plenumref02_Signed.l0 k a0 (([(a0) % 256] : List Int))) = some r := h
 clear h
 obtain ⟨y216, hy216⟩ : ∃ y_ : List Int, y_ = (([(a0) % 256] : List Int)) := ⟨_, rfl⟩
 replace H : (plenumref02_Signed.l0 k a0 y216) = some r := by first | (rw [hy216]; with_reducible exact H) | (have H2_ := (Option.bind_some _ _).symm.trans H; rw [hy216]; with_reducible exact H2_) | (have H2_ := (Option.bind_some _ _).symm.trans H; with_reducible exact H2_) | with_reducible exact H | (rw [hy216]; exact H) | exact H
 have Ny216 := Aside0.mk hy216
 clear hy216
 have H' := Aside0.mk H
 clear H
 go_enter Tryd.func76, Tryd.ntmps76
 go_wp2_with (first | ((with_reducible refine gate_dst (N := 6) rfl ?_); refine Kd.R_lit (Kd.int .u8) _ 5 ?hg (N := 6) ?hd (xs := ([(a0) % 256] : List Int)) (inner := [.int .u8 ((a0) % 256)]) (ok := fun _ => True) (okp := fun _ => True) ?hr ?hp (fun _ hk => hk) trivial (Below.refl _ _) (Nat.le_refl _) (by simp) ?_; (case hd => rfl); (case hg => rfl); (case hr => first | (go_simp; done) | (go_simp; rfl)); (case hp => exact (Reps.one (show Kd.M (Kd.int .u8) _ _ _ ((a0) % 256) [.int .u8 ((a0) % 256)] from rfl) (Reps.none _ _))); intro v217 w2 ho3 hb hg_ hnew_; clear hg_ hnew_; (first | rw [← Ny216.out] at ho3 | (simp only [Int.reduceToNat] at ho3; rw [← Ny216.out] at ho3)); have n0_ := Aside0.mk (Kd.R_lower ho3 (below_size (by repeat (first | (with_reducible first | exact HB.out | apply below_alloc | apply pw_below_drewN | apply below_drew1) | exact HB.out)))); have n1_ := Aside0.mk (below_step (by repeat (first | (with_reducible first | exact HB.out | apply below_alloc | apply pw_below_drewN | apply below_drew1) | exact HB.out)) hb); clear HB; have HO218 := n0_; have HB := n1_; clear n0_ n1_; clear hb ho3))
 go_loopg [0, 3] k (fun kq v0 v3 w' => ∃ (x0_1 : Int) (x3_1 : List Int), v0 = .int .i64 x0_1 ∧ Aside0 (plenumref02_Signed.l0 kq x0_1 x3_1 = some r) ∧ Aside0 (kq ≤ k) ∧ Aside0 (Kd.R (Kd.int .u8) 5 w' w.heap.size (fun _ => True) v3 x3_1) ∧ Aside0 (Below w.heap.size w w'))
 case atStart => exact ⟨(a0), (y216), (by first | rfl | (simp; done) | (simp [*]; done)), H', ⟨Nat.le_refl _⟩, ⟨by (with_reducible repeat (first | apply Kd.R_alloc | apply Kd.R_drewN | apply Kd.R_drew)); exact HO218.out⟩, ⟨by repeat (first | (with_reducible first | exact HB.out | apply below_alloc | apply pw_below_drewN | apply below_drew1) | exact HB.out)⟩⟩
 case round =>
  clear H'
  try clear p2
  obtain ⟨x0_1, x3_1, rfl, HA, HK1, HO_3, HB⟩ := hrel
  cases gk with
  | zero => exact absurd HA.out (by simp [plenumref02_Signed.l0])
  | succ k1 =>
   have H := HA.out
   clear HA
   simp only [plenumref02_Signed.l0] at H
   by_cases c4 : x0_1 < (-128)
   ·rw [if_pos c4] at H
    have c4b0 : decide (x0_1 < (-128)) = true := decide_eq_true c4
    clear c4
    obtain ⟨y219, hy219⟩ : ∃ y_ : List Int, y_ = (([(x0_1 / 256) % 256] : List Int)) := ⟨_, rfl⟩
    replace H : (if y219.length + x3_1.length < 140737488355328 then (plenumref02_Signed.l0 k1 (x0_1 / 256) (y219 ++ x3_1)) else (none)) = some r := by first | (rw [hy219]; with_reducible exact H) | (have H2_ := (Option.bind_some _ _).symm.trans H; rw [hy219]; with_reducible exact H2_) | (have H2_ := (Option.bind_some _ _).symm.trans H; with_reducible exact H2_) | with_reducible exact H | (rw [hy219]; exact H) | exact H
    have Ny219 := Aside0.mk hy219
    clear hy219
    by_cases c5 : y219.length + x3_1.length < 140737488355328
    ·rw [if_pos c5] at H
     have LMc5 := Aside0.mk c5
     clear c5
     obtain ⟨y222, hy222⟩ : ∃ y_ : List Int, y_ = (y219 ++ x3_1) := ⟨_, rfl⟩
     replace H : (plenumref02_Signed.l0 k1 (x0_1 / 256) y222) = some r := by first | (rw [hy222]; with_reducible exact H) | (have H2_ := (Option.bind_some _ _).symm.trans H; rw [hy222]; with_reducible exact H2_) | (have H2_ := (Option.bind_some _ _).symm.trans H; with_reducible exact H2_) | with_reducible exact H | (rw [hy222]; exact H) | exact H
     have Ny222 := Aside0.mk hy222
     clear hy222
     have H' := Aside0.mk H
     clear H
     go_wp2_with (first | ((with_reducible refine gate_dst (N := 17) rfl ?_); refine Kd.R_lit (Kd.int .u8) _ 5 ?hg (N := 17) ?hd (xs := ([(x0_1 / 256) % 256] : List Int)) (inner := [.int .u8 ((x0_1 / 256) % 256)]) (ok := fun _ => True) (okp := fun _ => True) ?hr ?hp (fun _ hk => hk) trivial (Below.refl _ _) (Nat.le_refl _) (by simp) ?_; (case hd => rfl); (case hg => rfl); (case hr => first | (go_simp; done) | (go_simp; rfl)); (case hp => exact (Reps.one (show Kd.M (Kd.int .u8) _ _ _ ((x0_1 / 256) % 256) [.int .u8 ((x0_1 / 256) % 256)] from rfl) (Reps.none _ _))); intro v220 w6 ho7 hb hg_ hnew_; clear hg_ hnew_; (first | rw [← Ny219.out] at ho7 | (simp only [Int.reduceToNat] at ho7; rw [← Ny219.out] at ho7)); have n0_ := Aside0.mk (Kd.R_elder' (by (with_reducible repeat (first | apply Kd.R_alloc | apply Kd.R_drewN | apply Kd.R_drew)); exact HO_3.out) (Kd.R_base ho7) hb); have n1_ := Aside0.mk (Kd.R_lower (Kd.R_new' ho7 (Kd.R_lt (by (with_reducible repeat (first | apply Kd.R_alloc | apply Kd.R_drewN | apply Kd.R_drew)); exact HO_3.out))) (below_size (by repeat (first | (with_reducible first | exact HB.out | apply below_alloc | apply pw_below_drewN | apply below_drew1) | exact HB.out)))); have n2_ := Aside0.mk (below_step (by repeat (first | (with_reducible first | exact HB.out | apply below_alloc | apply pw_below_drewN | apply below_drew1) | exact HB.out)) hb); clear HO_3; clear HB; have HO_3 := n0_; have HO221 := n1_; have HB := n2_; clear n0_ n1_ n2_; clear hb ho7; obtain ⟨Ao9, co9, eo9⟩ := Kd.R_slice HO_3.out; subst eo9) | ((with_reducible refine gate_builtin (b := .append) (xs := #[.tmp 17, .tmp 18]) rfl ?_); at_builtin; refine Kd.R_append_rows (Kd.int .u8) (w0 := w) w.heap.size rfl (.tmp 17) (.tmp 18) 88 5 (.int .u8 0) 1 rfl Tryd.underlying88 info5 rfl (by decide) (by omega) v220 y219 x3_1 _ _ _ (fun k_ => some k_ ≠ (.slice Ao9 x3_1.length co9 : Value).ownBlock) (fun _ => False) rfl rfl ?aO ?aR (fun _ _ h => h) (fun _ h => h.elim) ?aF ?aB ?aS ?aL ?_; (case aR => repeat (first | exact (Kd.R_reads' HO_3.out).2.2 | (with_reducible refine Kd.C_alloc ?_ _) | (with_reducible refine Kd.C_drewN ?_ _) | (with_reducible refine Kd.C_drew ?_))); (case aB => exact (by repeat (first | (with_reducible first | exact HB.out | apply below_alloc | apply pw_below_drewN | apply below_drew1) | exact HB.out))); (case aF => exact (fun k_ hk => Kd.fresh' (Kd.R_lt (by (with_reducible repeat (first | apply Kd.R_alloc | apply Kd.R_drewN | apply Kd.R_drew)); exact HO_3.out)) k_ hk)); (case aO => exact (by (with_reducible repeat (first | apply Kd.R_alloc | apply Kd.R_drewN | apply Kd.R_drew)); exact Kd.R_mono HO221.out (fun _ hk => hk.2))); (case aS => exact (below_size (by repeat (first | (with_reducible first | exact HB.out | apply below_alloc | apply pw_below_drewN | apply below_drew1) | exact HB.out)))); (case aL => have := LMc5.out; first | omega | (simp only [ByteArray.size, List.size_toArray, List.length_cons, List.length_nil] at this ⊢; omega)); intro v223 w8 ho hb hg hat; rw [← Ny222.out] at ho; have n0_ := Aside0.mk (Kd.R_after (ok := (fun _ => True)) (by (with_reducible repeat (first | apply Kd.R_alloc | apply Kd.R_drewN | apply Kd.R_drew)); exact HO_3.out) hg hat); have n1_ := Aside0.mk (hb); have n2_ := Aside0.mk (ho); clear HO_3; clear HB; clear HO221; have HO_3 := n0_; have HB := n1_; have HO224 := n2_; clear n0_ n1_ n2_; clear ho hb hg hat))
     go_roundg k1
     case measure => have := HK1.out; omega
     case rel => exact ⟨(x0_1 / 256), (y222), (by first | rfl | (simp; done) | (simp [*]; done)), H', ⟨by have := HK1.out; omega⟩, ⟨by (with_reducible repeat (first | apply Kd.R_alloc | apply Kd.R_drewN | apply Kd.R_drew)); exact Kd.R_mono HO224.out (fun _ hk => trivial)⟩, ⟨by repeat (first | (with_reducible first | exact HB.out | apply below_alloc | apply pw_below_drewN | apply below_drew1) | exact HB.out)⟩⟩
    ·rw [if_neg c5] at H
     exact absurd H (by simp)
   ·rw [if_neg c4] at H
    have c4b0 : decide (x0_1 < (-128)) = false := decide_eq_false c4
    clear c4
    by_cases c10 : x0_1 > 127
    ·rw [if_pos c10] at H
     have c10b0 : decide (127 < x0_1) = true := decide_eq_true c10
     clear c10
     obtain ⟨y225, hy225⟩ : ∃ y_ : List Int, y_ = (([(x0_1 / 256) % 256] : List Int)) := ⟨_, rfl⟩
     replace H : (if y225.length + x3_1.length < 140737488355328 then (plenumref02_Signed.l0 k1 (x0_1 / 256) (y225 ++ x3_1)) else (none)) = some r := by first | (rw [hy225]; with_reducible exact H) | (have H2_ := (Option.bind_some _ _).symm.trans H; rw [hy225]; with_reducible exact H2_) | (have H2_ := (Option.bind_some _ _).symm.trans H; with_reducible exact H2_) | with_reducible exact H | (rw [hy225]; exact H) | exact H
     have Ny225 := Aside0.mk hy225
     clear hy225
     by_cases c11 : y225.length + x3_1.length < 140737488355328
     ·rw [if_pos c11] at H
      have LMc11 := Aside0.mk c11
      clear c11
      obtain ⟨y228, hy228⟩ : ∃ y_ : List Int, y_ = (y225 ++ x3_1) := ⟨_, rfl⟩
      replace H : (plenumref02_Signed.l0 k1 (x0_1 / 256) y228) = some r := by first | (rw [hy228]; with_reducible exact H) | (have H2_ := (Option.bind_some _ _).symm.trans H; rw [hy228]; with_reducible exact H2_) | (have H2_ := (Option.bind_some _ _).symm.trans H; with_reducible exact H2_) | with_reducible exact H | (rw [hy228]; exact H) | exact H
      have Ny228 := Aside0.mk hy228
      clear hy228
      have H' := Aside0.mk H
      clear H
      go_wp2_with (first | ((with_reducible refine gate_dst (N := 17) rfl ?_); refine Kd.R_lit (Kd.int .u8) _ 5 ?hg (N := 17) ?hd (xs := ([(x0_1 / 256) % 256] : List Int)) (inner := [.int .u8 ((x0_1 / 256) % 256)]) (ok := fun _ => True) (okp := fun _ => True) ?hr ?hp (fun _ hk => hk) trivial (Below.refl _ _) (Nat.le_refl _) (by simp) ?_; (case hd => rfl); (case hg => rfl); (case hr => first | (go_simp; done) | (go_simp; rfl)); (case hp => exact (Reps.one (show Kd.M (Kd.int .u8) _ _ _ ((x0_1 / 256) % 256) [.int .u8 ((x0_1 / 256) % 256)] from rfl) (Reps.none _ _))); intro v226 w12 ho13 hb hg_ hnew_; clear hg_ hnew_; (first | rw [← Ny225.out] at ho13 | (simp only [Int.reduceToNat] at ho13; rw [← Ny225.out] at ho13)); have n0_ := Aside0.mk (Kd.R_elder' (by (with_reducible repeat (first | apply Kd.R_alloc | apply Kd.R_drewN | apply Kd.R_drew)); exact HO_3.out) (Kd.R_base ho13) hb); have n1_ := Aside0.mk (Kd.R_lower (Kd.R_new' ho13 (Kd.R_lt (by (with_reducible repeat (first | apply Kd.R_alloc | apply Kd.R_drewN | apply Kd.R_drew)); exact HO_3.out))) (below_size (by repeat (first | (with_reducible first | exact HB.out | apply below_alloc | apply pw_below_drewN | apply below_drew1) | exact HB.out)))); have n2_ := Aside0.mk (below_step (by repeat (first | (with_reducible first | exact HB.out | apply below_alloc | apply pw_below_drewN | apply below_drew1) | exact HB.out)) hb); clear HO_3; clear HB; have HO_3 := n0_; have HO227 := n1_; have HB := n2_; clear n0_ n1_ n2_; clear hb ho13; obtain ⟨Ao15, co15, eo15⟩ := Kd.R_slice HO_3.out; subst eo15) | ((with_reducible refine gate_builtin (b := .append) (xs := #[.tmp 17, .tmp 18]) rfl ?_); at_builtin; refine Kd.R_append_rows (Kd.int .u8) (w0 := w) w.heap.size rfl (.tmp 17) (.tmp 18) 88 5 (.int .u8 0) 1 rfl Tryd.underlying88 info5 rfl (by decide) (by omega) v226 y225 x3_1 _ _ _ (fun k_ => some k_ ≠ (.slice Ao15 x3_1.length co15 : Value).ownBlock) (fun _ => False) rfl rfl ?aO ?aR (fun _ _ h => h) (fun _ h => h.elim) ?aF ?aB ?aS ?aL ?_; (case aR => repeat (first | exact (Kd.R_reads' HO_3.out).2.2 | (with_reducible refine Kd.C_alloc ?_ _) | (with_reducible refine Kd.C_drewN ?_ _) | (with_reducible refine Kd.C_drew ?_))); (case aB => exact (by repeat (first | (with_reducible first | exact HB.out | apply below_alloc | apply pw_below_drewN | apply below_drew1) | exact HB.out))); (case aF => exact (fun k_ hk => Kd.fresh' (Kd.R_lt (by (with_reducible repeat (first | apply Kd.R_alloc | apply Kd.R_drewN | apply Kd.R_drew)); exact HO_3.out)) k_ hk)); (case aO => exact (by (with_reducible repeat (first | apply Kd.R_alloc | apply Kd.R_drewN | apply Kd.R_drew)); exact Kd.R_mono HO227.out (fun _ hk => hk.2))); (case aS => exact (below_size (by repeat (first | (with_reducible first | exact HB.out | apply below_alloc | apply pw_below_drewN | apply below_drew1) | exact HB.out)))); (case aL => have := LMc11.out; first | omega | (simp only [ByteArray.size, List.size_toArray, List.length_cons, List.length_nil] at this ⊢; omega)); intro v229 w14 ho hb hg hat; rw [← Ny228.out] at ho; have n0_ := Aside0.mk (Kd.R_after (ok := (fun _ => True)) (by (with_reducible repeat (first | apply Kd.R_alloc | apply Kd.R_drewN | apply Kd.R_drew)); exact HO_3.out) hg hat); have n1_ := Aside0.mk (hb); have n2_ := Aside0.mk (ho); clear HO_3; clear HB; clear HO227; have HO_3 := n0_; have HB := n1_; have HO230 := n2_; clear n0_ n1_ n2_; clear ho hb hg hat))
      go_roundg k1
      case measure => have := HK1.out; omega
      case rel => exact ⟨(x0_1 / 256), (y228), (by first | rfl | (simp; done) | (simp [*]; done)), H', ⟨by have := HK1.out; omega⟩, ⟨by (with_reducible repeat (first | apply Kd.R_alloc | apply Kd.R_drewN | apply Kd.R_drew)); exact Kd.R_mono HO230.out (fun _ hk => trivial)⟩, ⟨by repeat (first | (with_reducible first | exact HB.out | apply below_alloc | apply pw_below_drewN | apply below_drew1) | exact HB.out)⟩⟩
     ·rw [if_neg c11] at H
      exact absurd H (by simp)
    ·rw [if_neg c10] at H
     have c10b0 : decide (127 < x0_1) = false := decide_eq_false c10
     clear c10
     obtain ⟨y231, hy231⟩ : ∃ y_ : List Int, y_ = (([(wrap64 (32 + (x3_1.length : Int))) % 256] : List Int)) := ⟨_, rfl⟩
     replace H : (if y231.length + x3_1.length < 140737488355328 then (some (strOfNums (y231 ++ x3_1))) else (none)) = some r := by first | (rw [hy231]; with_reducible exact H) | (have H2_ := (Option.bind_some _ _).symm.trans H; rw [hy231]; with_reducible exact H2_) | (have H2_ := (Option.bind_some _ _).symm.trans H; with_reducible exact H2_) | with_reducible exact H | (rw [hy231]; exact H) | exact H
     have Ny231 := Aside0.mk hy231
     clear hy231
     by_cases c16 : y231.length + x3_1.length < 140737488355328
     ·rw [if_pos c16] at H
      have LMc16 := Aside0.mk c16
      clear c16
      obtain ⟨y234, hy234⟩ : ∃ y_ : List Int, y_ = (y231 ++ x3_1) := ⟨_, rfl⟩
      replace H : (some (strOfNums y234)) = some r := by first | (rw [hy234]; with_reducible exact H) | (have H2_ := (Option.bind_some _ _).symm.trans H; rw [hy234]; with_reducible exact H2_) | (have H2_ := (Option.bind_some _ _).symm.trans H; with_reducible exact H2_) | with_reducible exact H | (rw [hy234]; exact H) | exact H
      have Ny234 := Aside0.mk hy234
      clear hy234
      obtain rfl := Option.some.inj H
      obtain ⟨Ao17, co17, eo17⟩ := Kd.R_slice HO_3.out
      subst eo17
      go_wp2_with (first | ((with_reducible refine gate_dst (N := 24) rfl ?_); refine Kd.R_lit (Kd.int .u8) _ 5 ?hg (N := 24) ?hd (xs := ([(wrap64 (32 + (x3_1.length : Int))) % 256] : List Int)) (inner := [.int .u8 ((wrap64 (32 + (x3_1.length : Int))) % 256)]) (ok := fun _ => True) (okp := fun _ => True) ?hr ?hp (fun _ hk => hk) trivial (Below.refl _ _) (Nat.le_refl _) (by simp) ?_; (case hd => rfl); (case hg => rfl); (case hr => first | (go_simp; done) | (go_simp; rfl)); (case hp => exact (Reps.one (show Kd.M (Kd.int .u8) _ _ _ ((wrap64 (32 + (x3_1.length : Int))) % 256) [.int .u8 ((wrap64 (32 + (x3_1.length : Int))) % 256)] from rfl) (Reps.none _ _))); intro v232 w18 ho19 hb hg_ hnew_; clear hg_ hnew_; (first | rw [← Ny231.out] at ho19 | (simp only [Int.reduceToNat] at ho19; rw [← Ny231.out] at ho19)); have n0_ := Aside0.mk (Kd.R_elder' (by (with_reducible repeat (first | apply Kd.R_alloc | apply Kd.R_drewN | apply Kd.R_drew)); exact HO_3.out) (Kd.R_base ho19) hb); have n1_ := Aside0.mk (Kd.R_lower (Kd.R_new' ho19 (Kd.R_lt (by (with_reducible repeat (first | apply Kd.R_alloc | apply Kd.R_drewN | apply Kd.R_drew)); exact HO_3.out))) (below_size (by repeat (first | (with_reducible first | exact HB.out | apply below_alloc | apply pw_below_drewN | apply below_drew1) | exact HB.out)))); have n2_ := Aside0.mk (below_step (by repeat (first | (with_reducible first | exact HB.out | apply below_alloc | apply pw_below_drewN | apply below_drew1) | exact HB.out)) hb); clear HO_3; clear HB; have HO_3 := n0_; have HO233 := n1_; have HB := n2_; clear n0_ n1_ n2_; clear hb ho19) | ((with_reducible refine gate_builtin (b := .append) (xs := #[.tmp 24, .tmp 25]) rfl ?_); at_builtin; refine Kd.R_append_rows (Kd.int .u8) (w0 := w) w.heap.size rfl (.tmp 24) (.tmp 25) 88 5 (.int .u8 0) 1 rfl Tryd.underlying88 info5 rfl (by decide) (by omega) v232 y231 x3_1 _ _ _ (fun k_ => some k_ ≠ (.slice Ao17 x3_1.length co17 : Value).ownBlock) (fun _ => False) rfl rfl ?aO ?aR (fun _ _ h => h) (fun _ h => h.elim) ?aF ?aB ?aS ?aL ?_; (case aR => repeat (first | exact (Kd.R_reads' HO_3.out).2.2 | (with_reducible refine Kd.C_alloc ?_ _) | (with_reducible refine Kd.C_drewN ?_ _) | (with_reducible refine Kd.C_drew ?_))); (case aB => exact (by repeat (first | (with_reducible first | exact HB.out | apply below_alloc | apply pw_below_drewN | apply below_drew1) | exact HB.out))); (case aF => exact (fun k_ hk => Kd.fresh' (Kd.R_lt (by (with_reducible repeat (first | apply Kd.R_alloc | apply Kd.R_drewN | apply Kd.R_drew)); exact HO_3.out)) k_ hk)); (case aO => exact (by (with_reducible repeat (first | apply Kd.R_alloc | apply Kd.R_drewN | apply Kd.R_drew)); exact Kd.R_mono HO233.out (fun _ hk => hk.2))); (case aS => exact (below_size (by repeat (first | (with_reducible first | exact HB.out | apply below_alloc | apply pw_below_drewN | apply below_drew1) | exact HB.out)))); (case aL => have := LMc16.out; first | omega | (simp only [ByteArray.size, List.size_toArray, List.length_cons, List.length_nil] at this ⊢; omega)); intro v235 w20 ho hb hg hat; rw [← Ny234.out] at ho; have n0_ := Aside0.mk (Kd.R_after (ok := (fun _ => True)) (by (with_reducible repeat (first | apply Kd.R_alloc | apply Kd.R_drewN | apply Kd.R_drew)); exact HO_3.out) hg hat); have n1_ := Aside0.mk (hb); have n2_ := Aside0.mk (ho); clear HO_3; clear HB; clear HO233; have HO_3 := n0_; have HB := n1_; have HO236 := n2_; clear n0_ n1_ n2_; clear ho hb hg hat; have hcv21 := own_string (P := Tryd.prog) Tryd.underlying88 Tryd.underlying5 Tryd.underlying9 (Kd.own_of_R HO236.out)))
      go_ret
      exact ⟨by first | rfl | (simp [errW_none, errW_some] <;> rfl) | (simp [*, errW_none, errW_some] <;> rfl), by repeat (first | (with_reducible first | exact HB.out | apply below_alloc | apply pw_below_drewN | apply below_drew1) | exact HB.out)⟩
     ·rw [if_neg c16] at H
      exact absurd H (by simp)
end Go.Proofs.YtbccjcdmpiolpaaDoor.T
end
section
namespace Go.Proofs.YtbccjcdmpiolpaaDoor.T
open Go.RowKit Go.Proofs.YtbccjcdmpiolpaaDoorW.PrintWords Go.Proofs.YtbccjcdmpiolpaaDoorW.PrintLast Go.Proofs.YtbccjcdmpiolpaaDoorW.PrintMore
attribute [local go_sem] max2_int min2_int max_two min_two max_three min_three max_four min_four
set_option linter.unusedVariables false
set_option linter.unusedSimpArgs false
mutual
def plenumref02_ReadSigned.j0 : Nat → Int → ByteArray → Bool → Int → Bool → Option (Int × Int × Bool)
 | 0, _, _, _, _, _ => none
 | k + 1, x1, x7, x8, x9, x22 => if x22 = true then (plenumref02_ReadSigned.j1 k x1 x7 x8 (-1)) else (plenumref02_ReadSigned.j1 k x1 x7 x8 x9)
def plenumref02_ReadSigned.j1 : Nat → Int → ByteArray → Bool → Int → Option (Int × Int × Bool)
 | 0, _, _, _, _ => none
 | k + 1, x1, x7, x8, x9 => plenumref02_ReadSigned.l0 k x1 x7 x8 x9 0
def plenumref02_ReadSigned.l0 : Nat → Int → ByteArray → Bool → Int → Int → Option (Int × Int × Bool)
 | 0, _, _, _, _, _ => none
 | k + 1, x1, x7, x8, x9, x10 => if x10 < (x7.size : Int) then (if 0 ≤ x10 then (plenumref02_ReadSigned.l0 k x1 x7 x8 (Go.bits .or .i64 (wrap64 (x9 * 256)) (wrap64 (bt x7 x10))) (wrap64 (x10 + 1))) else (none)) else (if x8 = true then ((plenumref02_Signed.f k x9).bind fun t239 => (if (t239.size : Int) = (wrap64 ((x7.size : Int) + 1)) then (some (x9, wrap64 ((wrap64 (x1 + 1)) + (x7.size : Int)), true)) else (some (0, 0, false)))) else (some (0, 0, false)))
end
def plenumref02_ReadSigned.f (k : Nat) (a0 : ByteArray) (a1 : Int) : Option (Int × Int × Bool) := (plenumref02_number.f k a0 a1 32).bind fun bt237 => (if bt237.2 = true then (if 0 < (bt237.1.size : Int) then (plenumref02_ReadSigned.j0 k a1 bt237.1 bt237.2 0 (decide ((bt bt237.1 0) ≥ 128))) else (none)) else (plenumref02_ReadSigned.j0 k a1 bt237.1 bt237.2 0 false))
set_option maxHeartbeats 8000000 in
set_option maxRecDepth 100000 in
theorem plenumref02_ReadSigned.calls (k : Nat) (a0 : ByteArray) (a1 : Int) (r1 : Int) (r2 : Int) (r3 : Bool) (w : World) (hG : Glob w) (h : plenumref02_ReadSigned.f k a0 a1 = some (r1, r2, r3)) :
  Calls Tryd.prog 68 #[.string a0, .int .i64 a1] w fun e w' => e = .returned (.tuple #[.int .i64 r1, .int .i64 r2, .bool r3]) ∧ Below w.heap.size w w' := by
 have HG := Aside0.mk hG
 clear hG
 have HB := Aside0.mk (Below.refl w.heap.size w)
 have H : ((plenumref02_number.f k a0 a1 32).bind fun bt237 => (if bt237.2 = true then (if 0 < (bt237.1.size : Int) then (plenumref02_ReadSigned.j0 k a1 bt237.1 bt237.2 0 (decide ((bt bt237.1 0) ≥ 128))) else (none)) else (plenumref02_ReadSigned.j0 k a1 bt237.1 bt237.2 0 false))) = some (r1, r2, r3) := h
 clear h
 replace H := Option.bind_eq_some_iff.mp H
 obtain ⟨⟨t237, t238⟩, A30, H⟩ := H
 replace H : (if t238 = true then (if 0 < (t237.size : Int) then (plenumref02_ReadSigned.j0 k a1 t237 t238 0 (decide ((bt t237 0) ≥ 128))) else (none)) else (plenumref02_ReadSigned.j0 k a1 t237 t238 0 false)) = some (r1, r2, r3) := H
 have A3 := Aside0.mk A30
 clear A30
 have HC4 := Aside0.mk H
 clear H
 go_enter Tryd.func68, Tryd.ntmps68
 go_upto_region 3 with (first | ((with_reducible refine gate_callee (f := 74) rfl ?_); refine goesL_ (some 14) rfl rfl Tryd.func74 (by kernel_rfl) rfl #[.string a0, .int .i64 a1, .int .u8 32] rfl (by (try simp only [List.map_toArray, List.map_cons, List.map_nil]); first | done | rfl | (simp only [List.length_drop, List.length_take]; rfl)) ?_; (with_reducible refine (plenumref02_number.calls k a0 a1 32 t237 t238 _ ?side99  A3.out).mono ?_); (case side99 => first | exact HG.out | exact Glob.below HG.out (by repeat (first | (with_reducible first | exact HB.out | apply below_alloc | apply pw_below_drewN | apply below_drew1) | exact HB.out))); rintro e w' ⟨rfl, ⟨nd, rfl⟩⟩; refine ⟨_, rfl, ?_⟩))
 (try simp only [Act.put, List.setIfInBounds_toArray, List.set_cons_zero, List.set_cons_succ])
 go_cut [22] (fun v22 wc => ∃ (kq : Nat) (x22_3 : Bool), v22 = .bool x22_3 ∧ Aside0 (plenumref02_ReadSigned.j0 kq a1 t237 t238 0 x22_3 = some (r1, r2, r3)) ∧ Aside0 (kq ≤ k) ∧ Aside0 (Below w.heap.size w wc))
 case first =>
  have H := HC4.out
  clear HC4
  by_cases c5 : t238 = true
  ·subst c5
   have H1 : (if 0 < (t237.size : Int) then (plenumref02_ReadSigned.j0 k a1 t237 true 0 (decide ((bt t237 0) ≥ 128))) else (none)) = some (r1, r2, r3) := by rw [if_pos rfl] at H; exact H
   clear H
   have H := H1
   clear H1
   by_cases c6 : 0 < (t237.size : Int)
   ·rw [if_pos c6] at H
    have c6b0 : decide (0 < (t237.size : Int)) = true := decide_eq_true c6
    have c6b1 : decide (0 < t237.size) = true := decide_eq_true (by omega)
    clear c6
    (first | rw [c6b0] | (simp only [i64_w, i32_w]; rw [c6b0]) | skip)
    have H' := Aside0.mk H
    clear H
    have p7 : 0 ≤ (0 : Int) := (by omega)
    have q7 : 0 < t237.size := (by have : (0 : Int) < (t237.size : Int) := of_decide_eq_true (by first | (with_reducible assumption) | assumption); omega)
    have hx7 : ∀ h : 0 < t237.size, ((t237[0]'h).toNat : Int) = bt t237 0 := bt_at t237 0
    clear p7
    have qi7 : (0 < (t237.size : Int)) = True := eq_true (of_decide_eq_true (by first | (with_reducible assumption) | assumption))
    replace q7 := eq_true q7
    go_wp2
    go_meet
    case rel => exact ⟨_, (decide ((bt t237 0) ≥ 128)), (by first | rfl | (simp; done) | (simp [*]; done)), H', ⟨by first | omega | exact Nat.le_refl _⟩, ⟨by repeat (first | (with_reducible first | exact HB.out | apply below_alloc | apply pw_below_drewN | apply below_drew1) | exact HB.out)⟩⟩
   ·rw [if_neg c6] at H
    exact absurd H (by simp)
  ·replace c5 := Bool.eq_false_iff.mpr c5
   subst c5
   have H1 : (plenumref02_ReadSigned.j0 k a1 t237 false 0 false) = some (r1, r2, r3) := by rw [if_neg (show ¬ (false = true) by decide)] at H; exact H
   clear H
   have H := H1
   clear H1
   have H' := Aside0.mk H
   clear H
   go_wp2
   go_meet
   case rel => exact ⟨_, (false), (by first | rfl | (simp; done) | (simp [*]; done)), H', ⟨by first | omega | exact Nat.le_refl _⟩, ⟨by repeat (first | (with_reducible first | exact HB.out | apply below_alloc | apply pw_below_drewN | apply below_drew1) | exact HB.out)⟩⟩
 case rest =>
  clear HC4
  try clear p2
  try clear c5
  try clear c6
  try clear c6b0
  try clear c6b1
  try clear c7
  try clear p7
  try clear q7
  try clear hx7
  try clear qi7
  try clear p7
  try clear q7
  obtain ⟨kq, x22_3, rfl, HA, HJ3, HB⟩ := hcut
  cases kq with
  | zero => exact absurd HA.out (by simp [plenumref02_ReadSigned.j0])
  | succ kj3 =>
   have H := HA.out
   clear HA
   simp only [plenumref02_ReadSigned.j0] at H
   have HC8 := Aside0.mk H
   clear H
   go_upto_if 22 with (fail)
   go_cut [9] (fun v9 wc => ∃ (kq : Nat) (x9_7 : Int), v9 = .int .i64 x9_7 ∧ Aside0 (plenumref02_ReadSigned.j1 kq a1 t237 t238 x9_7 = some (r1, r2, r3)) ∧ Aside0 (kq ≤ kj3) ∧ Aside0 (Below w.heap.size w wc))
   case first =>
    have H := HC8.out
    clear HC8
    by_cases c9 : x22_3 = true
    ·subst c9
     have H1 : (plenumref02_ReadSigned.j1 kj3 a1 t237 t238 (-1)) = some (r1, r2, r3) := by rw [if_pos rfl] at H; exact H
     clear H
     have H := H1
     clear H1
     have H' := Aside0.mk H
     clear H
     go_wp2
     go_meet
     case rel => exact ⟨_, ((-1)), (by first | rfl | (simp; done) | (simp [*]; done)), H', ⟨by have := HJ3.out; first | omega | exact Nat.le_refl _⟩, ⟨by repeat (first | (with_reducible first | exact HB.out | apply below_alloc | apply pw_below_drewN | apply below_drew1) | exact HB.out)⟩⟩
    ·replace c9 := Bool.eq_false_iff.mpr c9
     subst c9
     have H1 : (plenumref02_ReadSigned.j1 kj3 a1 t237 t238 0) = some (r1, r2, r3) := by rw [if_neg (show ¬ (false = true) by decide)] at H; exact H
     clear H
     have H := H1
     clear H1
     have H' := Aside0.mk H
     clear H
     go_wp2
     go_meet
     case rel => exact ⟨_, (0), (by first | rfl | (simp; done) | (simp [*]; done)), H', ⟨by have := HJ3.out; first | omega | exact Nat.le_refl _⟩, ⟨by repeat (first | (with_reducible first | exact HB.out | apply below_alloc | apply pw_below_drewN | apply below_drew1) | exact HB.out)⟩⟩
   case rest =>
    clear HC8
    try clear p2
    try clear c5
    try clear c6
    try clear c6b0
    try clear c6b1
    try clear c7
    try clear p7
    try clear q7
    try clear hx7
    try clear qi7
    try clear c9
    try clear p2
    try clear p7
    try clear q7
    obtain ⟨kq, x9_7, rfl, HA, HJ7, HB⟩ := hcut
    cases kq with
    | zero => exact absurd HA.out (by simp [plenumref02_ReadSigned.j1])
    | succ kj7 =>
     have H := HA.out
     clear HA
     simp only [plenumref02_ReadSigned.j1] at H
     have H' := Aside0.mk H
     clear H
     go_wp2
     go_loopg [9, 10] kj7 (fun kq v9 v10 w' => ∃ (x9_3 : Int) (x10_3 : Int), v9 = .int .i64 x9_3 ∧ v10 = .int .i64 x10_3 ∧ Aside0 (plenumref02_ReadSigned.l0 kq a1 t237 t238 x9_3 x10_3 = some (r1, r2, r3)) ∧ Aside0 (kq ≤ kj7) ∧ Aside0 (Below w.heap.size w w'))
     case atStart => exact ⟨(x9_7), (0), (by first | rfl | (simp; done) | (simp [*]; done)), (by first | rfl | (simp; done) | (simp [*]; done)), H', ⟨Nat.le_refl _⟩, ⟨by repeat (first | (with_reducible first | exact HB.out | apply below_alloc | apply pw_below_drewN | apply below_drew1) | exact HB.out)⟩⟩
     case round =>
      clear H'
      try clear p2
      try clear c5
      try clear c6
      try clear c6b0
      try clear c6b1
      try clear c7
      try clear p7
      try clear q7
      try clear hx7
      try clear qi7
      try clear c9
      try clear p2
      try clear p7
      try clear q7
      obtain ⟨x9_3, x10_3, rfl, rfl, HA, HK3, HB⟩ := hrel
      cases gk with
      | zero => exact absurd HA.out (by simp [plenumref02_ReadSigned.l0])
      | succ k3 =>
       have H := HA.out
       clear HA
       simp only [plenumref02_ReadSigned.l0] at H
       by_cases c10 : x10_3 < (t237.size : Int)
       ·rw [if_pos c10] at H
        have c10b0 : decide (x10_3 < (t237.size : Int)) = true := decide_eq_true c10
        clear c10
        by_cases c11 : 0 ≤ x10_3
        ·rw [if_pos c11] at H
         have c11b0 : decide (0 ≤ x10_3) = true := decide_eq_true c11
         clear c11
         have H' := Aside0.mk H
         clear H
         have p12 : 0 ≤ (x10_3 : Int) := of_decide_eq_true (by first | (with_reducible assumption) | assumption)
         have q12 : x10_3 < (t237.size : Int) := of_decide_eq_true (by first | (with_reducible assumption) | assumption)
         have hx12 := bt_at t237 x10_3
         replace p12 := eq_true p12
         replace q12 := eq_true q12
         go_wp2
         go_roundg k3
         case measure => have := HJ3.out; have := HJ7.out; have := HK3.out; omega
         case rel => exact ⟨(Go.bits .or .i64 (wrap64 (x9_3 * 256)) (wrap64 (bt t237 x10_3))), (wrap64 (x10_3 + 1)), (by first | rfl | (simp; done) | (simp [*]; done)), (by first | rfl | (simp; done) | (simp [*]; done)), H', ⟨by have := HJ3.out; have := HJ7.out; have := HK3.out; omega⟩, ⟨by repeat (first | (with_reducible first | exact HB.out | apply below_alloc | apply pw_below_drewN | apply below_drew1) | exact HB.out)⟩⟩
        ·rw [if_neg c11] at H
         exact absurd H (by simp)
       ·rw [if_neg c10] at H
        have c10b0 : decide (x10_3 < (t237.size : Int)) = false := decide_eq_false c10
        clear c10
        by_cases c13 : t238 = true
        ·subst c13
         have H1 : ((plenumref02_Signed.f k3 x9_3).bind fun t239 => (if (t239.size : Int) = (wrap64 ((t237.size : Int) + 1)) then (some (x9_3, wrap64 ((wrap64 (a1 + 1)) + (t237.size : Int)), true)) else (some (0, 0, false)))) = some (r1, r2, r3) := by rw [if_pos rfl] at H; exact H
         clear H
         have H := H1
         clear H1
         replace H := Option.bind_eq_some_iff.mp H
         obtain ⟨t239, A140, H⟩ := H
         replace H : (if (t239.size : Int) = (wrap64 ((t237.size : Int) + 1)) then (some (x9_3, wrap64 ((wrap64 (a1 + 1)) + (t237.size : Int)), true)) else (some (0, 0, false))) = some (r1, r2, r3) := H
         have A14 := Aside0.mk A140
         clear A140
         by_cases c15 : (t239.size : Int) = (wrap64 ((t237.size : Int) + 1))
         ·rw [if_pos c15] at H
          have c15b0 : ((t239.size : Int) == (wrap64 ((t237.size : Int) + 1))) = true := beq_iff_eq.mpr c15
          have c15b1 : ((t239.size : Int) != (wrap64 ((t237.size : Int) + 1))) = false := bne_eq_false_iff_eq.mpr c15
          clear c15
          simp only [Option.some.injEq, Prod.mk.injEq] at H
          obtain ⟨rfl, rfl, rfl⟩ := H
          go_wp2_with (first | (go_at_call 76; (with_reducible refine (plenumref02_Signed.calls k3 x9_3 t239 _ ?side99  A14.out).mono ?_); (case side99 => first | exact HG.out | exact Glob.below HG.out (by repeat (first | (with_reducible first | exact HB.out | apply below_alloc | apply pw_below_drewN | apply below_drew1) | exact HB.out))); rintro e w16 ⟨rfl, hb⟩; have n0_ := Aside0.mk (below_step (by repeat (first | (with_reducible first | exact HB.out | apply below_alloc | apply pw_below_drewN | apply below_drew1) | exact HB.out)) hb); clear HB; have HB := n0_; clear n0_; (try clear hb); (try clear hb2); (try clear hk); (try clear hi)))
          go_ret3
          exact ⟨by first | rfl | (simp [errW_none, errW_some] <;> rfl) | (simp [*, errW_none, errW_some] <;> rfl), by repeat (first | (with_reducible first | exact HB.out | apply below_alloc | apply pw_below_drewN | apply below_drew1) | exact HB.out)⟩
         ·rw [if_neg c15] at H
          have c15b0 : ((t239.size : Int) == (wrap64 ((t237.size : Int) + 1))) = false := beq_eq_false_iff_ne.mpr c15
          have c15b1 : ((t239.size : Int) != (wrap64 ((t237.size : Int) + 1))) = true := bne_iff_ne.mpr c15
          simp only [Option.some.injEq, Prod.mk.injEq] at H
          obtain ⟨rfl, rfl, rfl⟩ := H
          go_wp2_with (first | (go_at_call 76; (with_reducible refine (plenumref02_Signed.calls k3 x9_3 t239 _ ?side99  A14.out).mono ?_); (case side99 => first | exact HG.out | exact Glob.below HG.out (by repeat (first | (with_reducible first | exact HB.out | apply below_alloc | apply pw_below_drewN | apply below_drew1) | exact HB.out))); rintro e w17 ⟨rfl, hb⟩; have n0_ := Aside0.mk (below_step (by repeat (first | (with_reducible first | exact HB.out | apply below_alloc | apply pw_below_drewN | apply below_drew1) | exact HB.out)) hb); clear HB; have HB := n0_; clear n0_; (try clear hb); (try clear hb2); (try clear hk); (try clear hi)))
          go_ret3
          exact ⟨by first | rfl | (simp [errW_none, errW_some] <;> rfl) | (simp [*, errW_none, errW_some] <;> rfl), by repeat (first | (with_reducible first | exact HB.out | apply below_alloc | apply pw_below_drewN | apply below_drew1) | exact HB.out)⟩
        ·replace c13 := Bool.eq_false_iff.mpr c13
         subst c13
         have H1 : (some (0, 0, false)) = some (r1, r2, r3) := by rw [if_neg (show ¬ (false = true) by decide)] at H; exact H
         clear H
         have H := H1
         clear H1
         simp only [Option.some.injEq, Prod.mk.injEq] at H
         obtain ⟨rfl, rfl, rfl⟩ := H
         go_wp2
         go_ret3
         exact ⟨by first | rfl | (simp [errW_none, errW_some] <;> rfl) | (simp [*, errW_none, errW_some] <;> rfl), by repeat (first | (with_reducible first | exact HB.out | apply below_alloc | apply pw_below_drewN | apply below_drew1) | exact HB.out)⟩
end Go.Proofs.YtbccjcdmpiolpaaDoor.T
end
section
namespace Go.Proofs.YtbccjcdmpiolpaaDoor.Pure
open Go.RowKit Go.Proofs.YtbccjcdmpiolpaaDoor.T Go.Proofs.YtbccjcdmpiolpaaDoorW.PrintWords Go.Proofs.YtbccjcdmpiolpaaDoorW.PrintLast Go.Proofs.YtbccjcdmpiolpaaDoorW.PrintMore
set_option linter.unusedVariables false
set_option linter.unusedSimpArgs false
def kd (b : Int) : Int := if b = 0 then 1 else if b = 1 ∨ b = 2 then 2 else if 16 < b ∧ b ≤ 24 then 3 else if 32 < b ∧ b ≤ 40 then 4 else if b = 48 then 5 else if b = 64 then 6 else 0
def kindS (s : ByteArray) (p : Int) : Int := if p < 0 ∨ p ≥ (s.size : Int) then 0 else kd (bt s p)
theorem byte_fin (s : ByteArray) (p : Int) : ∃ m : Fin 256, ((m.val : Nat) : Int) = bt s p := by
 have := bt_range s p
 exact ⟨⟨(bt s p).toNat, by omega⟩, by show (((bt s p).toNat : Nat) : Int) = _; omega⟩
theorem kind_eq (k : Nat) (s : ByteArray) (p : Int) : codec_kind.f (k + 3) s p = some (kindS s p) := by
 have h1 : ∀ x5 x6 x31, codec_kind.j1 (k + 2) x5 x6 x31 = codec_kind.j1 2 x5 x6 x31 := by intros; simp only [codec_kind.j1, codec_kind.j2]
 unfold codec_kind.f kindS
 by_cases c : p < 0
 ·rw [if_pos c, if_pos (Or.inl c)]; simp only [codec_kind.j0, if_true]
 ·by_cases c2 : p ≥ (s.size : Int)
  ·rw [if_neg c, if_pos (Or.inr c2), decide_eq_true c2]; simp only [codec_kind.j0, if_true]
  ·rw [if_neg c, if_neg (by omega), decide_eq_false c2]; simp only [codec_kind.j0, Bool.false_eq_true, if_false]
   rw [if_pos (by omega), if_pos (by omega)]
   simp only [h1]
   obtain ⟨m, hm⟩ := byte_fin s p
   rw [← hm]
   have hb : ∀ m : Fin 256, (if ((m.val : Nat) : Int) = 0 then (some 1) else (if (((m.val : Nat) : Int) / 16) > 4 then (some 0) else (if (((m.val : Nat) : Int) / 16) = 0 then (codec_kind.j1 2 (((m.val : Nat) : Int) / 16) (Go.bits .and .u8 ((m.val : Nat) : Int) 15) (decide ((Go.bits .and .u8 ((m.val : Nat) : Int) 15) > 2))) else (codec_kind.j1 2 (((m.val : Nat) : Int) / 16) (Go.bits .and .u8 ((m.val : Nat) : Int) 15) false)))) = some (kd ((m.val : Nat) : Int)) := by decide +kernel
   exact hb m
theorem kindS_in {s : ByteArray} {p : Int} (h : kindS s p ≠ 0) : 0 ≤ p ∧ p < (s.size : Int) ∧ kindS s p = kd (bt s p) := by
 unfold kindS at *
 split at h
 ·exact absurd rfl h
 ·rename_i c
  exact ⟨by omega, by omega, if_neg c⟩
theorem kd3 {b : Int} : kd b = 3 ↔ 16 < b ∧ b ≤ 24 := by unfold kd; omega
theorem kd4 {b : Int} : kd b = 4 ↔ 32 < b ∧ b ≤ 40 := by unfold kd; omega
def beN (s : ByteArray) (q : Int) : Nat → Int
 | 0 => 0
 | n + 1 => beN s q n * 256 + bt s (q + (n : Int))
theorem beN_range (s : ByteArray) (q : Int) (n : Nat) : 0 ≤ beN s q n ∧ beN s q n < 256 ^ n := by
 induction n with
 | zero => simp [beN]
 | succ n ih =>
  have := bt_range s (q + n)
  rw [Int.pow_succ]
  simp only [beN]
  omega
theorem pow256 {n m : Nat} (h : n ≤ m) : (256 : Int) ^ n ≤ 256 ^ m := by
 have := Nat.pow_le_pow_right (n := 256) (by decide) h
 have e : ∀ j : Nat, (256 : Int) ^ j = ((256 ^ j : Nat) : Int) := fun j => by rw [Int.natCast_pow]; rfl
 rw [e, e]
 omega
theorem beN_lt {s : ByteArray} {q : Int} {n m : Nat} (h : n ≤ m) : beN s q n < 256 ^ m := by
 have h1 := (beN_range s q n).2
 have h2 := pow256 h
 omega
def sgn (n : Nat) (V : Int) : Int := if V < 128 * 256 ^ (n - 1) then V else V - 256 ^ n
theorem sgn_range {n : Nat} {V : Int} (h1 : 1 ≤ n) (h8 : n ≤ 8) (h : 0 ≤ V ∧ V < 256 ^ n) : -9223372036854775808 ≤ sgn n V ∧ sgn n V ≤ 9223372036854775807 := by
 unfold sgn
 obtain rfl | rfl | rfl | rfl | rfl | rfl | rfl | rfl : n = 1 ∨ n = 2 ∨ n = 3 ∨ n = 4 ∨ n = 5 ∨ n = 6 ∨ n = 7 ∨ n = 8 := by omega
 all_goals simp only [Int.reducePow, Nat.reduceSub] at h ⊢
 all_goals split <;> omega
theorem sgn_shift {n : Nat} {V : Int} (h1 : 1 ≤ n) (h8 : n ≤ 8) (h : 0 ≤ V ∧ V < 256 ^ n) : shr .i64 (wrap64 (shl .u64 V (wrap64 (64 - (wrap64 (8 * (n : Int))))))) (wrap64 (64 - (wrap64 (8 * (n : Int))))) = sgn n V := by
 have hw : wrap64 (64 - (wrap64 (8 * (n : Int)))) = 64 - 8 * (n : Int) := by rw [w64 (n := 8 * (n : Int)) (by omega) (by omega), w64 (by omega) (by omega)]
 rw [hw]
 unfold sgn shr shl
 obtain rfl | rfl | rfl | rfl | rfl | rfl | rfl | rfl : n = 1 ∨ n = 2 ∨ n = 3 ∨ n = 4 ∨ n = 5 ∨ n = 6 ∨ n = 7 ∨ n = 8 := by omega
 ·rw [show (2 : Int) ^ min (64 - 8 * ((1 : Nat) : Int)).toNat IntKind.u64.bits = 72057594037927936 from rfl, show (2 : Int) ^ min (64 - 8 * ((1 : Nat) : Int)).toNat IntKind.i64.bits = 72057594037927936 from rfl, u64w]; unfold wrap64; simp only [Int.reducePow, Nat.reduceSub] at h ⊢; split <;> omega
 ·rw [show (2 : Int) ^ min (64 - 8 * ((2 : Nat) : Int)).toNat IntKind.u64.bits = 281474976710656 from rfl, show (2 : Int) ^ min (64 - 8 * ((2 : Nat) : Int)).toNat IntKind.i64.bits = 281474976710656 from rfl, u64w]; unfold wrap64; simp only [Int.reducePow, Nat.reduceSub] at h ⊢; split <;> omega
 ·rw [show (2 : Int) ^ min (64 - 8 * ((3 : Nat) : Int)).toNat IntKind.u64.bits = 1099511627776 from rfl, show (2 : Int) ^ min (64 - 8 * ((3 : Nat) : Int)).toNat IntKind.i64.bits = 1099511627776 from rfl, u64w]; unfold wrap64; simp only [Int.reducePow, Nat.reduceSub] at h ⊢; split <;> omega
 ·rw [show (2 : Int) ^ min (64 - 8 * ((4 : Nat) : Int)).toNat IntKind.u64.bits = 4294967296 from rfl, show (2 : Int) ^ min (64 - 8 * ((4 : Nat) : Int)).toNat IntKind.i64.bits = 4294967296 from rfl, u64w]; unfold wrap64; simp only [Int.reducePow, Nat.reduceSub] at h ⊢; split <;> omega
 ·rw [show (2 : Int) ^ min (64 - 8 * ((5 : Nat) : Int)).toNat IntKind.u64.bits = 16777216 from rfl, show (2 : Int) ^ min (64 - 8 * ((5 : Nat) : Int)).toNat IntKind.i64.bits = 16777216 from rfl, u64w]; unfold wrap64; simp only [Int.reducePow, Nat.reduceSub] at h ⊢; split <;> omega
 ·rw [show (2 : Int) ^ min (64 - 8 * ((6 : Nat) : Int)).toNat IntKind.u64.bits = 65536 from rfl, show (2 : Int) ^ min (64 - 8 * ((6 : Nat) : Int)).toNat IntKind.i64.bits = 65536 from rfl, u64w]; unfold wrap64; simp only [Int.reducePow, Nat.reduceSub] at h ⊢; split <;> omega
 ·rw [show (2 : Int) ^ min (64 - 8 * ((7 : Nat) : Int)).toNat IntKind.u64.bits = 256 from rfl, show (2 : Int) ^ min (64 - 8 * ((7 : Nat) : Int)).toNat IntKind.i64.bits = 256 from rfl, u64w]; unfold wrap64; simp only [Int.reducePow, Nat.reduceSub] at h ⊢; split <;> omega
 ·rw [show (2 : Int) ^ min (64 - 8 * ((8 : Nat) : Int)).toNat IntKind.u64.bits = 1 from rfl, show (2 : Int) ^ min (64 - 8 * ((8 : Nat) : Int)).toNat IntKind.i64.bits = 1 from rfl, u64w]; unfold wrap64; simp only [Int.reducePow, Nat.reduceSub] at h ⊢; split <;> omega
def cnt (s : ByteArray) (p : Int) : Nat := (bt s p % 16).toNat
def val (s : ByteArray) (p : Int) : Int := beN s (p + 1) (cnt s p)
def rawS (s : ByteArray) (p want : Int) : Int × Int × Bool :=
 if kindS s p = want then
  if p + 1 + (cnt s p : Int) > (s.size : Int) then (0, 0, false)
  else if want = 3 then (val s p, p + 1 + (cnt s p : Int), nb (val s p) == (cnt s p : Int))
  else (IntKind.u64.wrap (sgn (cnt s p) (val s p)), p + 1 + (cnt s p : Int), ss (sgn (cnt s p) (val s p)) == (cnt s p : Int))
 else (0, 0, false)
theorem raw_loop (s : ByteArray) (p want : Int) (n : Nat) (hp : 0 ≤ p) (h1 : 1 ≤ n) (h8 : n ≤ 8) (hn : p + 1 + (n : Int) ≤ (s.size : Int)) (hz : s.size ≤ 140737488355327) :
  ∀ (d i : Nat), i + d = n → ∀ k, codec_raw.l0 (k + d + 2) s p want n (beN s (p + 1) i) n i =
   if want = 3 then some (beN s (p + 1) n, p + 1 + (n : Int), nb (beN s (p + 1) n) == (n : Int)) else some (IntKind.u64.wrap (sgn n (beN s (p + 1) n)), p + 1 + (n : Int), ss (sgn n (beN s (p + 1) n)) == (n : Int)) := by
 intro d
 have w1 : wrap64 (p + 1) = p + 1 := w64 (by omega) (by omega)
 induction d with
 | zero =>
  intro i hi k
  obtain rfl : i = n := by omega
  have hr := beN_range s (p + 1) i
  have hlt : beN s (p + 1) i < 256 ^ 8 := beN_lt h8
  simp only [Int.reducePow] at hlt
  have hr' := sgn_range h1 h8 hr
  show codec_raw.l0 ((k + 1) + 1) s p want i _ i i = _
  rw [codec_raw.l0]
  rw [if_neg (by omega), w1, w64 (n := p + 1 + (i : Int)) (by omega) (by omega)]
  by_cases c : want = 3
  ·rw [if_pos c, if_pos c, width_eq _ _ hr.1 (by omega)]; rfl
  ·have hw : 0 ≤ wrap64 (64 - (wrap64 (8 * (i : Int)))) := by rw [w64 (n := 8 * (i : Int)) (by omega) (by omega), w64 (by omega) (by omega)]; omega
   rw [if_neg c, if_neg c, if_pos hw, sgn_shift h1 h8 hr, spread_eq _ _ hr'.1 hr'.2]; rfl
 | succ d ih =>
  intro i hi k
  have hr := beN_range s (p + 1) i
  have hlt : beN s (p + 1) i < 256 ^ 7 := beN_lt (by omega)
  simp only [Int.reducePow] at hlt
  have hb := bt_range s (p + 1 + (i : Int))
  show codec_raw.l0 ((k + d + 2) + 1) s p want n _ n i = _
  rw [codec_raw.l0]
  rw [if_pos (by omega), w1, w64 (n := p + 1 + (i : Int)) (by omega) (by omega), if_pos (by omega), if_pos (by omega), w64 (n := (i : Int) + 1) (by omega) (by omega), u64w, u64w,
   Int.emod_eq_of_lt (b := 18446744073709551616) (a := beN s (p + 1) i * 256) (by omega) (by omega), Int.emod_eq_of_lt (b := 18446744073709551616) (a := bt s (p + 1 + (i : Int))) (by omega) (by omega), or_u64 _ _ hr.1 (by omega) hb.1 (by omega)]
  have := ih (i + 1) (by omega) k
  have e : ((i + 1 : Nat) : Int) = (i : Int) + 1 := by omega
  rw [e] at this
  exact this
theorem raw_eq (k : Nat) (s : ByteArray) (p want : Int) (hw : want = 3 ∨ want = 4) (hz : s.size ≤ 140737488355327) : codec_raw.f (k + 12) s p want = some (rawS s p want) := by
 unfold codec_raw.f rawS
 rw [show k + 12 = (k + 9) + 3 from rfl, kind_eq]
 simp only [Option.bind_some]
 by_cases c : kindS s p = want
 ·rw [if_pos c, if_pos c]
  obtain ⟨p0, p1, hk⟩ := kindS_in (s := s) (p := p) (by omega)
  have hb : (16 < bt s p ∧ bt s p ≤ 24) ∨ (32 < bt s p ∧ bt s p ≤ 40) := by
   rcases hw with rfl | rfl
   ·left; exact kd3.1 (hk.symm.trans c)
   ·right; exact kd4.1 (hk.symm.trans c)
  have hc : (bt s p % 16) = (cnt s p : Int) := by unfold cnt; omega
  have h1 : 1 ≤ bt s p % 16 ∧ bt s p % 16 ≤ 8 := by omega
  rw [if_pos p0, if_pos p1, and15_bt, hc]
  rw [hc] at h1
  rw [w64 (n := (cnt s p : Int)) (by omega) (by omega), w64 (n := p + 1) (by omega) (by omega), w64 (n := p + 1 + (cnt s p : Int)) (by omega) (by omega)]
  by_cases c2 : p + 1 + (cnt s p : Int) > (s.size : Int)
  ·rw [if_pos c2, if_pos c2]
  ·rw [if_neg c2, if_neg c2]
   have := raw_loop s p want (cnt s p) p0 (by omega) (by omega) (by omega) hz (cnt s p) 0 (by omega) (k + 10 - cnt s p)
   rw [show k + 10 - cnt s p + cnt s p + 2 = k + 9 + 3 by omega] at this
   refine this.trans ?_
   unfold val
   split <;> rfl
 ·rw [if_neg c, if_neg c]
end Go.Proofs.YtbccjcdmpiolpaaDoor.Pure
end
section
namespace Go.Proofs.YtbccjcdmpiolpaaDoor.T
open Go.RowKit Go.Proofs.YtbccjcdmpiolpaaDoorW.PrintWords Go.Proofs.YtbccjcdmpiolpaaDoorW.PrintLast Go.Proofs.YtbccjcdmpiolpaaDoorW.PrintMore
attribute [local go_sem] max2_int min2_int max_two min_two max_three min_three max_four min_four
set_option linter.unusedVariables false
set_option linter.unusedSimpArgs false
def codec_list.f (k : Nat) (a0 : ByteArray) (a1 : Int) : Option (Int × Int × Bool) := (codec_kind.f k a0 a1).bind fun t119 => (if t119 = 6 then ((codec_raw.f k a0 (wrap64 (a1 + 1)) 3).bind fun bt120 => (if bt120.2.2 = true then (if bt120.1 > 65535 then (some (0, 0, false)) else (some (wrap64 (bt120.1), bt120.2.1, true))) else (some (0, 0, false)))) else (some (0, 0, false)))
set_option maxHeartbeats 8000000 in
set_option maxRecDepth 100000 in
theorem codec_list.calls (k : Nat) (a0 : ByteArray) (a1 : Int) (r1 : Int) (r2 : Int) (r3 : Bool) (w : World) (hG : Glob w) (h : codec_list.f k a0 a1 = some (r1, r2, r3)) :
  Calls Tryd.prog 61 #[.string a0, .int .i64 a1] w fun e w' => e = .returned (.tuple #[.int .i64 r1, .int .i64 r2, .bool r3]) ∧ Below w.heap.size w w' := by
 have HG := Aside0.mk hG
 clear hG
 have HB := Aside0.mk (Below.refl w.heap.size w)
 have H : ((codec_kind.f k a0 a1).bind fun t119 => (if t119 = 6 then ((codec_raw.f k a0 (wrap64 (a1 + 1)) 3).bind fun bt120 => (if bt120.2.2 = true then (if bt120.1 > 65535 then (some (0, 0, false)) else (some (wrap64 (bt120.1), bt120.2.1, true))) else (some (0, 0, false)))) else (some (0, 0, false)))) = some (r1, r2, r3) := h
 clear h
 replace H := Option.bind_eq_some_iff.mp H
 obtain ⟨t119, A30, H⟩ := H
 replace H : (if t119 = 6 then ((codec_raw.f k a0 (wrap64 (a1 + 1)) 3).bind fun bt120 => (if bt120.2.2 = true then (if bt120.1 > 65535 then (some (0, 0, false)) else (some (wrap64 (bt120.1), bt120.2.1, true))) else (some (0, 0, false)))) else (some (0, 0, false))) = some (r1, r2, r3) := H
 have A3 := Aside0.mk A30
 clear A30
 by_cases c4 : t119 = 6
 ·rw [if_pos c4] at H
  have c4b0 : (t119 == 6) = true := beq_iff_eq.mpr c4
  have c4b1 : (t119 != 6) = false := bne_eq_false_iff_eq.mpr c4
  clear c4
  replace H := Option.bind_eq_some_iff.mp H
  obtain ⟨⟨t120, t121, t122⟩, A50, H⟩ := H
  replace H : (if t122 = true then (if t120 > 65535 then (some (0, 0, false)) else (some (wrap64 (t120), t121, true))) else (some (0, 0, false))) = some (r1, r2, r3) := H
  have A5 := Aside0.mk A50
  clear A50
  by_cases c6 : t122 = true
  ·subst c6
   have H1 : (if t120 > 65535 then (some (0, 0, false)) else (some (wrap64 (t120), t121, true))) = some (r1, r2, r3) := by rw [if_pos rfl] at H; exact H
   clear H
   have H := H1
   clear H1
   by_cases c7 : t120 > 65535
   ·rw [if_pos c7] at H
    have c7b0 : decide (65535 < t120) = true := decide_eq_true c7
    clear c7
    simp only [Option.some.injEq, Prod.mk.injEq] at H
    obtain ⟨rfl, rfl, rfl⟩ := H
    go_enter Tryd.func61, Tryd.ntmps61
    go_wp2_with (first | ((with_reducible refine gate_callee (f := 72) rfl ?_); refine goesL_ (some 12) rfl rfl Tryd.func72 (by kernel_rfl) rfl #[.string a0, .int .i64 a1] rfl (by (try simp only [List.map_toArray, List.map_cons, List.map_nil]); first | done | rfl | (simp only [List.length_drop, List.length_take]; rfl)) ?_; (with_reducible refine (codec_kind.calls k a0 a1 t119 _ ?side99  A3.out).mono ?_); (case side99 => first | exact HG.out | exact Glob.below HG.out (by repeat (first | (with_reducible first | exact HB.out | apply below_alloc | apply pw_below_drewN | apply below_drew1) | exact HB.out))); rintro e w' ⟨rfl, ⟨nd, rfl⟩⟩; refine ⟨_, rfl, ?_⟩) | ((with_reducible refine gate_callee (f := 64) rfl ?_); refine goesL_ (some 18) rfl rfl Tryd.func64 (by kernel_rfl) rfl #[.string a0, .int .i64 (wrap64 (a1 + 1)), .int .i64 3] rfl (by (try simp only [List.map_toArray, List.map_cons, List.map_nil]); first | done | rfl | (simp only [List.length_drop, List.length_take]; rfl)) ?_; (with_reducible refine (codec_raw.calls k a0 (wrap64 (a1 + 1)) 3 t120 t121 true _ ?side99  A5.out).mono ?_); (case side99 => first | exact HG.out | exact Glob.below HG.out (by repeat (first | (with_reducible first | exact HB.out | apply below_alloc | apply pw_below_drewN | apply below_drew1) | exact HB.out))); rintro e w8 ⟨rfl, hb⟩; refine ⟨_, rfl, ?_⟩; have n0_ := Aside0.mk (below_step (by repeat (first | (with_reducible first | exact HB.out | apply below_alloc | apply pw_below_drewN | apply below_drew1) | exact HB.out)) hb); clear HB; have HB := n0_; clear n0_; (try clear hb); (try clear hb2); (try clear hk); (try clear hi)))
    go_ret3
    exact ⟨by first | rfl | (simp [errW_none, errW_some] <;> rfl) | (simp [*, errW_none, errW_some] <;> rfl), by repeat (first | (with_reducible first | exact HB.out | apply below_alloc | apply pw_below_drewN | apply below_drew1) | exact HB.out)⟩
   ·rw [if_neg c7] at H
    have c7b0 : decide (65535 < t120) = false := decide_eq_false c7
    clear c7
    simp only [Option.some.injEq, Prod.mk.injEq] at H
    obtain ⟨rfl, rfl, rfl⟩ := H
    go_enter Tryd.func61, Tryd.ntmps61
    go_wp2_with (first | ((with_reducible refine gate_callee (f := 72) rfl ?_); refine goesL_ (some 12) rfl rfl Tryd.func72 (by kernel_rfl) rfl #[.string a0, .int .i64 a1] rfl (by (try simp only [List.map_toArray, List.map_cons, List.map_nil]); first | done | rfl | (simp only [List.length_drop, List.length_take]; rfl)) ?_; (with_reducible refine (codec_kind.calls k a0 a1 t119 _ ?side99  A3.out).mono ?_); (case side99 => first | exact HG.out | exact Glob.below HG.out (by repeat (first | (with_reducible first | exact HB.out | apply below_alloc | apply pw_below_drewN | apply below_drew1) | exact HB.out))); rintro e w' ⟨rfl, ⟨nd, rfl⟩⟩; refine ⟨_, rfl, ?_⟩) | ((with_reducible refine gate_callee (f := 64) rfl ?_); refine goesL_ (some 18) rfl rfl Tryd.func64 (by kernel_rfl) rfl #[.string a0, .int .i64 (wrap64 (a1 + 1)), .int .i64 3] rfl (by (try simp only [List.map_toArray, List.map_cons, List.map_nil]); first | done | rfl | (simp only [List.length_drop, List.length_take]; rfl)) ?_; (with_reducible refine (codec_raw.calls k a0 (wrap64 (a1 + 1)) 3 t120 t121 true _ ?side99  A5.out).mono ?_); (case side99 => first | exact HG.out | exact Glob.below HG.out (by repeat (first | (with_reducible first | exact HB.out | apply below_alloc | apply pw_below_drewN | apply below_drew1) | exact HB.out))); rintro e w9 ⟨rfl, hb⟩; refine ⟨_, rfl, ?_⟩; have n0_ := Aside0.mk (below_step (by repeat (first | (with_reducible first | exact HB.out | apply below_alloc | apply pw_below_drewN | apply below_drew1) | exact HB.out)) hb); clear HB; have HB := n0_; clear n0_; (try clear hb); (try clear hb2); (try clear hk); (try clear hi)))
    go_ret3
    exact ⟨by first | rfl | (simp [errW_none, errW_some] <;> rfl) | (simp [*, errW_none, errW_some] <;> rfl), by repeat (first | (with_reducible first | exact HB.out | apply below_alloc | apply pw_below_drewN | apply below_drew1) | exact HB.out)⟩
  ·replace c6 := Bool.eq_false_iff.mpr c6
   subst c6
   have H1 : (some (0, 0, false)) = some (r1, r2, r3) := by rw [if_neg (show ¬ (false = true) by decide)] at H; exact H
   clear H
   have H := H1
   clear H1
   simp only [Option.some.injEq, Prod.mk.injEq] at H
   obtain ⟨rfl, rfl, rfl⟩ := H
   go_enter Tryd.func61, Tryd.ntmps61
   go_wp2_with (first | ((with_reducible refine gate_callee (f := 72) rfl ?_); refine goesL_ (some 12) rfl rfl Tryd.func72 (by kernel_rfl) rfl #[.string a0, .int .i64 a1] rfl (by (try simp only [List.map_toArray, List.map_cons, List.map_nil]); first | done | rfl | (simp only [List.length_drop, List.length_take]; rfl)) ?_; (with_reducible refine (codec_kind.calls k a0 a1 t119 _ ?side99  A3.out).mono ?_); (case side99 => first | exact HG.out | exact Glob.below HG.out (by repeat (first | (with_reducible first | exact HB.out | apply below_alloc | apply pw_below_drewN | apply below_drew1) | exact HB.out))); rintro e w' ⟨rfl, ⟨nd, rfl⟩⟩; refine ⟨_, rfl, ?_⟩) | ((with_reducible refine gate_callee (f := 64) rfl ?_); refine goesL_ (some 18) rfl rfl Tryd.func64 (by kernel_rfl) rfl #[.string a0, .int .i64 (wrap64 (a1 + 1)), .int .i64 3] rfl (by (try simp only [List.map_toArray, List.map_cons, List.map_nil]); first | done | rfl | (simp only [List.length_drop, List.length_take]; rfl)) ?_; (with_reducible refine (codec_raw.calls k a0 (wrap64 (a1 + 1)) 3 t120 t121 false _ ?side99  A5.out).mono ?_); (case side99 => first | exact HG.out | exact Glob.below HG.out (by repeat (first | (with_reducible first | exact HB.out | apply below_alloc | apply pw_below_drewN | apply below_drew1) | exact HB.out))); rintro e w10 ⟨rfl, hb⟩; refine ⟨_, rfl, ?_⟩; have n0_ := Aside0.mk (below_step (by repeat (first | (with_reducible first | exact HB.out | apply below_alloc | apply pw_below_drewN | apply below_drew1) | exact HB.out)) hb); clear HB; have HB := n0_; clear n0_; (try clear hb); (try clear hb2); (try clear hk); (try clear hi)))
   go_ret3
   exact ⟨by first | rfl | (simp [errW_none, errW_some] <;> rfl) | (simp [*, errW_none, errW_some] <;> rfl), by repeat (first | (with_reducible first | exact HB.out | apply below_alloc | apply pw_below_drewN | apply below_drew1) | exact HB.out)⟩
 ·rw [if_neg c4] at H
  have c4b0 : (t119 == 6) = false := beq_eq_false_iff_ne.mpr c4
  have c4b1 : (t119 != 6) = true := bne_iff_ne.mpr c4
  simp only [Option.some.injEq, Prod.mk.injEq] at H
  obtain ⟨rfl, rfl, rfl⟩ := H
  go_enter Tryd.func61, Tryd.ntmps61
  go_wp2_with (first | ((with_reducible refine gate_callee (f := 72) rfl ?_); refine goesL_ (some 12) rfl rfl Tryd.func72 (by kernel_rfl) rfl #[.string a0, .int .i64 a1] rfl (by (try simp only [List.map_toArray, List.map_cons, List.map_nil]); first | done | rfl | (simp only [List.length_drop, List.length_take]; rfl)) ?_; (with_reducible refine (codec_kind.calls k a0 a1 t119 _ ?side99  A3.out).mono ?_); (case side99 => first | exact HG.out | exact Glob.below HG.out (by repeat (first | (with_reducible first | exact HB.out | apply below_alloc | apply pw_below_drewN | apply below_drew1) | exact HB.out))); rintro e w' ⟨rfl, ⟨nd, rfl⟩⟩; refine ⟨_, rfl, ?_⟩))
  go_ret3
  exact ⟨by first | rfl | (simp [errW_none, errW_some] <;> rfl) | (simp [*, errW_none, errW_some] <;> rfl), by repeat (first | (with_reducible first | exact HB.out | apply below_alloc | apply pw_below_drewN | apply below_drew1) | exact HB.out)⟩
end Go.Proofs.YtbccjcdmpiolpaaDoor.T
end
section
namespace Go.Proofs.YtbccjcdmpiolpaaDoor.T
open Go.RowKit Go.Proofs.YtbccjcdmpiolpaaDoorW.PrintWords Go.Proofs.YtbccjcdmpiolpaaDoorW.PrintLast Go.Proofs.YtbccjcdmpiolpaaDoorW.PrintMore
attribute [local go_sem] max2_int min2_int max_two min_two max_three min_three max_four min_four
set_option linter.unusedVariables false
set_option linter.unusedSimpArgs false
def codec_text.f (k : Nat) (a0 : ByteArray) (a1 : Int) : Option (ByteArray × Int × Bool) := (codec_kind.f k a0 a1).bind fun t126 => (if t126 = 5 then ((codec_raw.f k a0 (wrap64 (a1 + 1)) 3).bind fun bt127 => (if bt127.2.2 = true then (if bt127.1 > 65535 then (some ((⟨#[]⟩ : ByteArray), 0, false)) else (if (wrap64 (bt127.1)) > (wrap64 ((a0.size : Int) - bt127.2.1)) then (some ((⟨#[]⟩ : ByteArray), 0, false)) else (if 0 ≤ bt127.2.1 then (if bt127.2.1 ≤ (wrap64 (bt127.2.1 + (wrap64 (bt127.1)))) then (if (wrap64 (bt127.2.1 + (wrap64 (bt127.1)))) ≤ (a0.size : Int) then (some (a0.extract (bt127.2.1 : Int).toNat ((wrap64 (bt127.2.1 + (wrap64 (bt127.1)))) : Int).toNat, wrap64 (bt127.2.1 + (wrap64 (bt127.1))), true)) else (none)) else (none)) else (none)))) else (some ((⟨#[]⟩ : ByteArray), 0, false)))) else (some ((⟨#[]⟩ : ByteArray), 0, false)))
set_option maxHeartbeats 8000000 in
set_option maxRecDepth 100000 in
theorem codec_text.calls (k : Nat) (a0 : ByteArray) (a1 : Int) (r1 : ByteArray) (r2 : Int) (r3 : Bool) (w : World) (hG : Glob w) (h : codec_text.f k a0 a1 = some (r1, r2, r3)) :
  Calls Tryd.prog 58 #[.string a0, .int .i64 a1] w fun e w' => e = .returned (.tuple #[.string r1, .int .i64 r2, .bool r3]) ∧ Below w.heap.size w w' := by
 have HG := Aside0.mk hG
 clear hG
 have HB := Aside0.mk (Below.refl w.heap.size w)
 have H : ((codec_kind.f k a0 a1).bind fun t126 => (if t126 = 5 then ((codec_raw.f k a0 (wrap64 (a1 + 1)) 3).bind fun bt127 => (if bt127.2.2 = true then (if bt127.1 > 65535 then (some ((⟨#[]⟩ : ByteArray), 0, false)) else (if (wrap64 (bt127.1)) > (wrap64 ((a0.size : Int) - bt127.2.1)) then (some ((⟨#[]⟩ : ByteArray), 0, false)) else (if 0 ≤ bt127.2.1 then (if bt127.2.1 ≤ (wrap64 (bt127.2.1 + (wrap64 (bt127.1)))) then (if (wrap64 (bt127.2.1 + (wrap64 (bt127.1)))) ≤ (a0.size : Int) then (some (a0.extract (bt127.2.1 : Int).toNat ((wrap64 (bt127.2.1 + (wrap64 (bt127.1)))) : Int).toNat, wrap64 (bt127.2.1 + (wrap64 (bt127.1))), true)) else (none)) else (none)) else (none)))) else (some ((⟨#[]⟩ : ByteArray), 0, false)))) else (some ((⟨#[]⟩ : ByteArray), 0, false)))) = some (r1, r2, r3) := h
 clear h
 replace H := Option.bind_eq_some_iff.mp H
 obtain ⟨t126, A30, H⟩ := H
 replace H : (if t126 = 5 then ((codec_raw.f k a0 (wrap64 (a1 + 1)) 3).bind fun bt127 => (if bt127.2.2 = true then (if bt127.1 > 65535 then (some ((⟨#[]⟩ : ByteArray), 0, false)) else (if (wrap64 (bt127.1)) > (wrap64 ((a0.size : Int) - bt127.2.1)) then (some ((⟨#[]⟩ : ByteArray), 0, false)) else (if 0 ≤ bt127.2.1 then (if bt127.2.1 ≤ (wrap64 (bt127.2.1 + (wrap64 (bt127.1)))) then (if (wrap64 (bt127.2.1 + (wrap64 (bt127.1)))) ≤ (a0.size : Int) then (some (a0.extract (bt127.2.1 : Int).toNat ((wrap64 (bt127.2.1 + (wrap64 (bt127.1)))) : Int).toNat, wrap64 (bt127.2.1 + (wrap64 (bt127.1))), true)) else (none)) else (none)) else (none)))) else (some ((⟨#[]⟩ : ByteArray), 0, false)))) else (some ((⟨#[]⟩ : ByteArray), 0, false))) = some (r1, r2, r3) := H
 have A3 := Aside0.mk A30
 clear A30
 by_cases c4 : t126 = 5
 ·rw [if_pos c4] at H
  have c4b0 : (t126 == 5) = true := beq_iff_eq.mpr c4
  have c4b1 : (t126 != 5) = false := bne_eq_false_iff_eq.mpr c4
  clear c4
  replace H := Option.bind_eq_some_iff.mp H
  obtain ⟨⟨t127, t128, t129⟩, A50, H⟩ := H
  replace H : (if t129 = true then (if t127 > 65535 then (some ((⟨#[]⟩ : ByteArray), 0, false)) else (if (wrap64 (t127)) > (wrap64 ((a0.size : Int) - t128)) then (some ((⟨#[]⟩ : ByteArray), 0, false)) else (if 0 ≤ t128 then (if t128 ≤ (wrap64 (t128 + (wrap64 (t127)))) then (if (wrap64 (t128 + (wrap64 (t127)))) ≤ (a0.size : Int) then (some (a0.extract (t128 : Int).toNat ((wrap64 (t128 + (wrap64 (t127)))) : Int).toNat, wrap64 (t128 + (wrap64 (t127))), true)) else (none)) else (none)) else (none)))) else (some ((⟨#[]⟩ : ByteArray), 0, false))) = some (r1, r2, r3) := H
  have A5 := Aside0.mk A50
  clear A50
  by_cases c6 : t129 = true
  ·subst c6
   have H1 : (if t127 > 65535 then (some ((⟨#[]⟩ : ByteArray), 0, false)) else (if (wrap64 (t127)) > (wrap64 ((a0.size : Int) - t128)) then (some ((⟨#[]⟩ : ByteArray), 0, false)) else (if 0 ≤ t128 then (if t128 ≤ (wrap64 (t128 + (wrap64 (t127)))) then (if (wrap64 (t128 + (wrap64 (t127)))) ≤ (a0.size : Int) then (some (a0.extract (t128 : Int).toNat ((wrap64 (t128 + (wrap64 (t127)))) : Int).toNat, wrap64 (t128 + (wrap64 (t127))), true)) else (none)) else (none)) else (none)))) = some (r1, r2, r3) := by rw [if_pos rfl] at H; exact H
   clear H
   have H := H1
   clear H1
   by_cases c7 : t127 > 65535
   ·rw [if_pos c7] at H
    have c7b0 : decide (65535 < t127) = true := decide_eq_true c7
    clear c7
    simp only [Option.some.injEq, Prod.mk.injEq] at H
    obtain ⟨rfl, rfl, rfl⟩ := H
    go_enter Tryd.func58, Tryd.ntmps58
    go_wp2_with (first | ((with_reducible refine gate_callee (f := 72) rfl ?_); refine goesL_ (some 12) rfl rfl Tryd.func72 (by kernel_rfl) rfl #[.string a0, .int .i64 a1] rfl (by (try simp only [List.map_toArray, List.map_cons, List.map_nil]); first | done | rfl | (simp only [List.length_drop, List.length_take]; rfl)) ?_; (with_reducible refine (codec_kind.calls k a0 a1 t126 _ ?side99  A3.out).mono ?_); (case side99 => first | exact HG.out | exact Glob.below HG.out (by repeat (first | (with_reducible first | exact HB.out | apply below_alloc | apply pw_below_drewN | apply below_drew1) | exact HB.out))); rintro e w' ⟨rfl, ⟨nd, rfl⟩⟩; refine ⟨_, rfl, ?_⟩) | ((with_reducible refine gate_callee (f := 64) rfl ?_); refine goesL_ (some 18) rfl rfl Tryd.func64 (by kernel_rfl) rfl #[.string a0, .int .i64 (wrap64 (a1 + 1)), .int .i64 3] rfl (by (try simp only [List.map_toArray, List.map_cons, List.map_nil]); first | done | rfl | (simp only [List.length_drop, List.length_take]; rfl)) ?_; (with_reducible refine (codec_raw.calls k a0 (wrap64 (a1 + 1)) 3 t127 t128 true _ ?side99  A5.out).mono ?_); (case side99 => first | exact HG.out | exact Glob.below HG.out (by repeat (first | (with_reducible first | exact HB.out | apply below_alloc | apply pw_below_drewN | apply below_drew1) | exact HB.out))); rintro e w8 ⟨rfl, hb⟩; refine ⟨_, rfl, ?_⟩; have n0_ := Aside0.mk (below_step (by repeat (first | (with_reducible first | exact HB.out | apply below_alloc | apply pw_below_drewN | apply below_drew1) | exact HB.out)) hb); clear HB; have HB := n0_; clear n0_; (try clear hb); (try clear hb2); (try clear hk); (try clear hi)))
    go_ret3
    exact ⟨by first | rfl | (simp [errW_none, errW_some] <;> rfl) | (simp [*, errW_none, errW_some] <;> rfl), by repeat (first | (with_reducible first | exact HB.out | apply below_alloc | apply pw_below_drewN | apply below_drew1) | exact HB.out)⟩
   ·rw [if_neg c7] at H
    have c7b0 : decide (65535 < t127) = false := decide_eq_false c7
    clear c7
    by_cases c9 : (wrap64 (t127)) > (wrap64 ((a0.size : Int) - t128))
    ·rw [if_pos c9] at H
     have c9b0 : decide ((wrap64 ((a0.size : Int) - t128)) < (wrap64 (t127))) = true := decide_eq_true c9
     clear c9
     simp only [Option.some.injEq, Prod.mk.injEq] at H
     obtain ⟨rfl, rfl, rfl⟩ := H
     go_enter Tryd.func58, Tryd.ntmps58
     go_wp2_with (first | ((with_reducible refine gate_callee (f := 72) rfl ?_); refine goesL_ (some 12) rfl rfl Tryd.func72 (by kernel_rfl) rfl #[.string a0, .int .i64 a1] rfl (by (try simp only [List.map_toArray, List.map_cons, List.map_nil]); first | done | rfl | (simp only [List.length_drop, List.length_take]; rfl)) ?_; (with_reducible refine (codec_kind.calls k a0 a1 t126 _ ?side99  A3.out).mono ?_); (case side99 => first | exact HG.out | exact Glob.below HG.out (by repeat (first | (with_reducible first | exact HB.out | apply below_alloc | apply pw_below_drewN | apply below_drew1) | exact HB.out))); rintro e w' ⟨rfl, ⟨nd, rfl⟩⟩; refine ⟨_, rfl, ?_⟩) | ((with_reducible refine gate_callee (f := 64) rfl ?_); refine goesL_ (some 18) rfl rfl Tryd.func64 (by kernel_rfl) rfl #[.string a0, .int .i64 (wrap64 (a1 + 1)), .int .i64 3] rfl (by (try simp only [List.map_toArray, List.map_cons, List.map_nil]); first | done | rfl | (simp only [List.length_drop, List.length_take]; rfl)) ?_; (with_reducible refine (codec_raw.calls k a0 (wrap64 (a1 + 1)) 3 t127 t128 true _ ?side99  A5.out).mono ?_); (case side99 => first | exact HG.out | exact Glob.below HG.out (by repeat (first | (with_reducible first | exact HB.out | apply below_alloc | apply pw_below_drewN | apply below_drew1) | exact HB.out))); rintro e w10 ⟨rfl, hb⟩; refine ⟨_, rfl, ?_⟩; have n0_ := Aside0.mk (below_step (by repeat (first | (with_reducible first | exact HB.out | apply below_alloc | apply pw_below_drewN | apply below_drew1) | exact HB.out)) hb); clear HB; have HB := n0_; clear n0_; (try clear hb); (try clear hb2); (try clear hk); (try clear hi)))
     go_ret3
     exact ⟨by first | rfl | (simp [errW_none, errW_some] <;> rfl) | (simp [*, errW_none, errW_some] <;> rfl), by repeat (first | (with_reducible first | exact HB.out | apply below_alloc | apply pw_below_drewN | apply below_drew1) | exact HB.out)⟩
    ·rw [if_neg c9] at H
     have c9b0 : decide ((wrap64 ((a0.size : Int) - t128)) < (wrap64 (t127))) = false := decide_eq_false c9
     clear c9
     by_cases c11 : 0 ≤ t128
     ·rw [if_pos c11] at H
      have c11b0 := eq_true c11
      have c11b1 : decide (0 ≤ t128) = true := decide_eq_true c11
      clear c11
      by_cases c12 : t128 ≤ (wrap64 (t128 + (wrap64 (t127))))
      ·rw [if_pos c12] at H
       have c12b0 := eq_true c12
       have c12b1 : decide (t128 ≤ (wrap64 (t128 + (wrap64 (t127))))) = true := decide_eq_true c12
       by_cases c13 : (wrap64 (t128 + (wrap64 (t127)))) ≤ (a0.size : Int)
       ·rw [if_pos c13] at H
        have c13b0 := eq_true c13
        have c13b1 : decide ((wrap64 (t128 + (wrap64 (t127)))) ≤ (a0.size : Int)) = true := decide_eq_true c13
        simp only [Option.some.injEq, Prod.mk.injEq] at H
        obtain ⟨rfl, rfl, rfl⟩ := H
        go_enter Tryd.func58, Tryd.ntmps58
        go_wp2_with (first | ((with_reducible refine gate_callee (f := 72) rfl ?_); refine goesL_ (some 12) rfl rfl Tryd.func72 (by kernel_rfl) rfl #[.string a0, .int .i64 a1] rfl (by (try simp only [List.map_toArray, List.map_cons, List.map_nil]); first | done | rfl | (simp only [List.length_drop, List.length_take]; rfl)) ?_; (with_reducible refine (codec_kind.calls k a0 a1 t126 _ ?side99  A3.out).mono ?_); (case side99 => first | exact HG.out | exact Glob.below HG.out (by repeat (first | (with_reducible first | exact HB.out | apply below_alloc | apply pw_below_drewN | apply below_drew1) | exact HB.out))); rintro e w' ⟨rfl, ⟨nd, rfl⟩⟩; refine ⟨_, rfl, ?_⟩) | ((with_reducible refine gate_callee (f := 64) rfl ?_); refine goesL_ (some 18) rfl rfl Tryd.func64 (by kernel_rfl) rfl #[.string a0, .int .i64 (wrap64 (a1 + 1)), .int .i64 3] rfl (by (try simp only [List.map_toArray, List.map_cons, List.map_nil]); first | done | rfl | (simp only [List.length_drop, List.length_take]; rfl)) ?_; (with_reducible refine (codec_raw.calls k a0 (wrap64 (a1 + 1)) 3 t127 t128 true _ ?side99  A5.out).mono ?_); (case side99 => first | exact HG.out | exact Glob.below HG.out (by repeat (first | (with_reducible first | exact HB.out | apply below_alloc | apply pw_below_drewN | apply below_drew1) | exact HB.out))); rintro e w14 ⟨rfl, hb⟩; refine ⟨_, rfl, ?_⟩; have n0_ := Aside0.mk (below_step (by repeat (first | (with_reducible first | exact HB.out | apply below_alloc | apply pw_below_drewN | apply below_drew1) | exact HB.out)) hb); clear HB; have HB := n0_; clear n0_; (try clear hb); (try clear hb2); (try clear hk); (try clear hi)))
        go_ret3
        exact ⟨by first | rfl | (simp [errW_none, errW_some] <;> rfl) | (simp [*, errW_none, errW_some] <;> rfl), by repeat (first | (with_reducible first | exact HB.out | apply below_alloc | apply pw_below_drewN | apply below_drew1) | exact HB.out)⟩
       ·rw [if_neg c13] at H
        exact absurd H (by simp)
      ·rw [if_neg c12] at H
       exact absurd H (by simp)
     ·rw [if_neg c11] at H
      exact absurd H (by simp)
  ·replace c6 := Bool.eq_false_iff.mpr c6
   subst c6
   have H1 : (some ((⟨#[]⟩ : ByteArray), 0, false)) = some (r1, r2, r3) := by rw [if_neg (show ¬ (false = true) by decide)] at H; exact H
   clear H
   have H := H1
   clear H1
   simp only [Option.some.injEq, Prod.mk.injEq] at H
   obtain ⟨rfl, rfl, rfl⟩ := H
   go_enter Tryd.func58, Tryd.ntmps58
   go_wp2_with (first | ((with_reducible refine gate_callee (f := 72) rfl ?_); refine goesL_ (some 12) rfl rfl Tryd.func72 (by kernel_rfl) rfl #[.string a0, .int .i64 a1] rfl (by (try simp only [List.map_toArray, List.map_cons, List.map_nil]); first | done | rfl | (simp only [List.length_drop, List.length_take]; rfl)) ?_; (with_reducible refine (codec_kind.calls k a0 a1 t126 _ ?side99  A3.out).mono ?_); (case side99 => first | exact HG.out | exact Glob.below HG.out (by repeat (first | (with_reducible first | exact HB.out | apply below_alloc | apply pw_below_drewN | apply below_drew1) | exact HB.out))); rintro e w' ⟨rfl, ⟨nd, rfl⟩⟩; refine ⟨_, rfl, ?_⟩) | ((with_reducible refine gate_callee (f := 64) rfl ?_); refine goesL_ (some 18) rfl rfl Tryd.func64 (by kernel_rfl) rfl #[.string a0, .int .i64 (wrap64 (a1 + 1)), .int .i64 3] rfl (by (try simp only [List.map_toArray, List.map_cons, List.map_nil]); first | done | rfl | (simp only [List.length_drop, List.length_take]; rfl)) ?_; (with_reducible refine (codec_raw.calls k a0 (wrap64 (a1 + 1)) 3 t127 t128 false _ ?side99  A5.out).mono ?_); (case side99 => first | exact HG.out | exact Glob.below HG.out (by repeat (first | (with_reducible first | exact HB.out | apply below_alloc | apply pw_below_drewN | apply below_drew1) | exact HB.out))); rintro e w15 ⟨rfl, hb⟩; refine ⟨_, rfl, ?_⟩; have n0_ := Aside0.mk (below_step (by repeat (first | (with_reducible first | exact HB.out | apply below_alloc | apply pw_below_drewN | apply below_drew1) | exact HB.out)) hb); clear HB; have HB := n0_; clear n0_; (try clear hb); (try clear hb2); (try clear hk); (try clear hi)))
   go_ret3
   exact ⟨by first | rfl | (simp [errW_none, errW_some] <;> rfl) | (simp [*, errW_none, errW_some] <;> rfl), by repeat (first | (with_reducible first | exact HB.out | apply below_alloc | apply pw_below_drewN | apply below_drew1) | exact HB.out)⟩
 ·rw [if_neg c4] at H
  have c4b0 : (t126 == 5) = false := beq_eq_false_iff_ne.mpr c4
  have c4b1 : (t126 != 5) = true := bne_iff_ne.mpr c4
  simp only [Option.some.injEq, Prod.mk.injEq] at H
  obtain ⟨rfl, rfl, rfl⟩ := H
  go_enter Tryd.func58, Tryd.ntmps58
  go_wp2_with (first | ((with_reducible refine gate_callee (f := 72) rfl ?_); refine goesL_ (some 12) rfl rfl Tryd.func72 (by kernel_rfl) rfl #[.string a0, .int .i64 a1] rfl (by (try simp only [List.map_toArray, List.map_cons, List.map_nil]); first | done | rfl | (simp only [List.length_drop, List.length_take]; rfl)) ?_; (with_reducible refine (codec_kind.calls k a0 a1 t126 _ ?side99  A3.out).mono ?_); (case side99 => first | exact HG.out | exact Glob.below HG.out (by repeat (first | (with_reducible first | exact HB.out | apply below_alloc | apply pw_below_drewN | apply below_drew1) | exact HB.out))); rintro e w' ⟨rfl, ⟨nd, rfl⟩⟩; refine ⟨_, rfl, ?_⟩))
  go_ret3
  exact ⟨by first | rfl | (simp [errW_none, errW_some] <;> rfl) | (simp [*, errW_none, errW_some] <;> rfl), by repeat (first | (with_reducible first | exact HB.out | apply below_alloc | apply pw_below_drewN | apply below_drew1) | exact HB.out)⟩
end Go.Proofs.YtbccjcdmpiolpaaDoor.T
end
section
namespace Go.Proofs.YtbccjcdmpiolpaaDoor.T
open Go.RowKit Go.Proofs.YtbccjcdmpiolpaaDoorW.PrintWords Go.Proofs.YtbccjcdmpiolpaaDoorW.PrintLast Go.Proofs.YtbccjcdmpiolpaaDoorW.PrintMore
attribute [local go_sem] max2_int min2_int max_two min_two max_three min_three max_four min_four
set_option linter.unusedVariables false
set_option linter.unusedSimpArgs false
def plenumref02_ReadHead.j0 : Nat → ByteArray → Int → Bool → Option (Int × Int × Bool)
 | 0, _, _, _ => none
 | k + 1, x0, x1, x19 => if x19 = true then (some (0, 0, false)) else ((plenumref02_ReadUnsigned.f k x0 (wrap64 (x1 + 1))).bind fun bt198 => (if bt198.2.2 = true then (if bt198.1 > 65535 then (some (0, 0, false)) else (some (wrap64 (bt198.1), bt198.2.1, true))) else (some (0, 0, false))))
def plenumref02_ReadHead.f (k : Nat) (a0 : ByteArray) (a1 : Int) : Option (Int × Int × Bool) := if a1 ≥ (a0.size : Int) then (plenumref02_ReadHead.j0 k a0 a1 true) else (if 0 ≤ a1 then (if a1 < (a0.size : Int) then (plenumref02_ReadHead.j0 k a0 a1 ((bt a0 a1) != 64)) else (none)) else (none))
set_option maxHeartbeats 8000000 in
set_option maxRecDepth 100000 in
theorem plenumref02_ReadHead.calls (k : Nat) (a0 : ByteArray) (a1 : Int) (r1 : Int) (r2 : Int) (r3 : Bool) (w : World) (hG : Glob w) (h : plenumref02_ReadHead.f k a0 a1 = some (r1, r2, r3)) :
  Calls Tryd.prog 65 #[.string a0, .int .i64 a1] w fun e w' => e = .returned (.tuple #[.int .i64 r1, .int .i64 r2, .bool r3]) ∧ Below w.heap.size w w' := by
 have HG := Aside0.mk hG
 clear hG
 have HB := Aside0.mk (Below.refl w.heap.size w)
 have H : (if a1 ≥ (a0.size : Int) then (plenumref02_ReadHead.j0 k a0 a1 true) else (if 0 ≤ a1 then (if a1 < (a0.size : Int) then (plenumref02_ReadHead.j0 k a0 a1 ((bt a0 a1) != 64)) else (none)) else (none))) = some (r1, r2, r3) := h
 clear h
 have HC3 := Aside0.mk H
 clear H
 go_enter Tryd.func65, Tryd.ntmps65
 go_upto_region 1 with (fail)
 go_cut [19] (fun v19 wc => ∃ (kq : Nat) (x19_2 : Bool), v19 = .bool x19_2 ∧ Aside0 (plenumref02_ReadHead.j0 kq a0 a1 x19_2 = some (r1, r2, r3)) ∧ Aside0 (kq ≤ k) ∧ Aside0 (Below w.heap.size w wc))
 case first =>
  have H := HC3.out
  clear HC3
  by_cases c4 : a1 ≥ (a0.size : Int)
  ·rw [if_pos c4] at H
   have c4b0 : decide ((a0.size : Int) ≤ a1) = true := decide_eq_true c4
   clear c4
   (first | rw [c4b0] | (simp only [i64_w, i32_w]; rw [c4b0]) | skip)
   have H' := Aside0.mk H
   clear H
   go_wp2
   go_meet
   case rel => exact ⟨_, (true), (by first | rfl | (simp; done) | (simp [*]; done)), H', ⟨by first | omega | exact Nat.le_refl _⟩, ⟨by repeat (first | (with_reducible first | exact HB.out | apply below_alloc | apply pw_below_drewN | apply below_drew1) | exact HB.out)⟩⟩
  ·rw [if_neg c4] at H
   have c4b0 : decide ((a0.size : Int) ≤ a1) = false := decide_eq_false c4
   clear c4
   (first | rw [c4b0] | (simp only [i64_w, i32_w]; rw [c4b0]) | skip)
   by_cases c5 : 0 ≤ a1
   ·rw [if_pos c5] at H
    have c5b0 : decide (0 ≤ a1) = true := decide_eq_true c5
    clear c5
    by_cases c6 : a1 < (a0.size : Int)
    ·rw [if_pos c6] at H
     have c6b0 : decide (a1 < (a0.size : Int)) = true := decide_eq_true c6
     clear c6
     have H' := Aside0.mk H
     clear H
     have p7 : 0 ≤ (a1 : Int) := of_decide_eq_true (by first | (with_reducible assumption) | assumption)
     have q7 : a1 < (a0.size : Int) := of_decide_eq_true (by first | (with_reducible assumption) | assumption)
     have hx7 := bt_at a0 a1
     replace p7 := eq_true p7
     replace q7 := eq_true q7
     go_wp2
     go_meet
     case rel => exact ⟨_, (((bt a0 a1) != 64)), (by first | rfl | (simp; done) | (simp [*]; done)), H', ⟨by first | omega | exact Nat.le_refl _⟩, ⟨by repeat (first | (with_reducible first | exact HB.out | apply below_alloc | apply pw_below_drewN | apply below_drew1) | exact HB.out)⟩⟩
    ·rw [if_neg c6] at H
     exact absurd H (by simp)
   ·rw [if_neg c5] at H
    exact absurd H (by simp)
 case rest =>
  clear HC3
  try clear p2
  try clear c4
  try clear c4b0
  try clear c5
  try clear c5b0
  try clear c6
  try clear c6b0
  try clear p7
  try clear q7
  try clear hx7
  try clear p7
  try clear q7
  obtain ⟨kq, x19_2, rfl, HA, HJ2, HB⟩ := hcut
  cases kq with
  | zero => exact absurd HA.out (by simp [plenumref02_ReadHead.j0])
  | succ kj2 =>
   have H := HA.out
   clear HA
   simp only [plenumref02_ReadHead.j0] at H
   by_cases c8 : x19_2 = true
   ·subst c8
    have H1 : (some (0, 0, false)) = some (r1, r2, r3) := by rw [if_pos rfl] at H; exact H
    clear H
    have H := H1
    clear H1
    simp only [Option.some.injEq, Prod.mk.injEq] at H
    obtain ⟨rfl, rfl, rfl⟩ := H
    go_wp2
    go_ret3
    exact ⟨by first | rfl | (simp [errW_none, errW_some] <;> rfl) | (simp [*, errW_none, errW_some] <;> rfl), by repeat (first | (with_reducible first | exact HB.out | apply below_alloc | apply pw_below_drewN | apply below_drew1) | exact HB.out)⟩
   ·replace c8 := Bool.eq_false_iff.mpr c8
    subst c8
    have H1 : ((plenumref02_ReadUnsigned.f kj2 a0 (wrap64 (a1 + 1))).bind fun bt198 => (if bt198.2.2 = true then (if bt198.1 > 65535 then (some (0, 0, false)) else (some (wrap64 (bt198.1), bt198.2.1, true))) else (some (0, 0, false)))) = some (r1, r2, r3) := by rw [if_neg (show ¬ (false = true) by decide)] at H; exact H
    clear H
    have H := H1
    clear H1
    replace H := Option.bind_eq_some_iff.mp H
    obtain ⟨⟨t198, t199, t200⟩, A90, H⟩ := H
    replace H : (if t200 = true then (if t198 > 65535 then (some (0, 0, false)) else (some (wrap64 (t198), t199, true))) else (some (0, 0, false))) = some (r1, r2, r3) := H
    have A9 := Aside0.mk A90
    clear A90
    by_cases c10 : t200 = true
    ·subst c10
     have H1 : (if t198 > 65535 then (some (0, 0, false)) else (some (wrap64 (t198), t199, true))) = some (r1, r2, r3) := by rw [if_pos rfl] at H; exact H
     clear H
     have H := H1
     clear H1
     by_cases c11 : t198 > 65535
     ·rw [if_pos c11] at H
      have c11b0 : decide (65535 < t198) = true := decide_eq_true c11
      clear c11
      simp only [Option.some.injEq, Prod.mk.injEq] at H
      obtain ⟨rfl, rfl, rfl⟩ := H
      go_wp2_with (first | ((with_reducible refine gate_callee (f := 67) rfl ?_); refine goesL_ (some 24) rfl rfl Tryd.func67 (by kernel_rfl) rfl #[.string a0, .int .i64 (wrap64 (a1 + 1))] rfl (by (try simp only [List.map_toArray, List.map_cons, List.map_nil]); first | done | rfl | (simp only [List.length_drop, List.length_take]; rfl)) ?_; (with_reducible refine (plenumref02_ReadUnsigned.calls kj2 a0 (wrap64 (a1 + 1)) t198 t199 true _ ?side99  A9.out).mono ?_); (case side99 => first | exact HG.out | exact Glob.below HG.out (by repeat (first | (with_reducible first | exact HB.out | apply below_alloc | apply pw_below_drewN | apply below_drew1) | exact HB.out))); rintro e w12 ⟨rfl, hb⟩; refine ⟨_, rfl, ?_⟩; have n0_ := Aside0.mk (below_step (by repeat (first | (with_reducible first | exact HB.out | apply below_alloc | apply pw_below_drewN | apply below_drew1) | exact HB.out)) hb); clear HB; have HB := n0_; clear n0_; (try clear hb); (try clear hb2); (try clear hk); (try clear hi)))
      go_ret3
      exact ⟨by first | rfl | (simp [errW_none, errW_some] <;> rfl) | (simp [*, errW_none, errW_some] <;> rfl), by repeat (first | (with_reducible first | exact HB.out | apply below_alloc | apply pw_below_drewN | apply below_drew1) | exact HB.out)⟩
     ·rw [if_neg c11] at H
      have c11b0 : decide (65535 < t198) = false := decide_eq_false c11
      clear c11
      simp only [Option.some.injEq, Prod.mk.injEq] at H
      obtain ⟨rfl, rfl, rfl⟩ := H
      go_wp2_with (first | ((with_reducible refine gate_callee (f := 67) rfl ?_); refine goesL_ (some 24) rfl rfl Tryd.func67 (by kernel_rfl) rfl #[.string a0, .int .i64 (wrap64 (a1 + 1))] rfl (by (try simp only [List.map_toArray, List.map_cons, List.map_nil]); first | done | rfl | (simp only [List.length_drop, List.length_take]; rfl)) ?_; (with_reducible refine (plenumref02_ReadUnsigned.calls kj2 a0 (wrap64 (a1 + 1)) t198 t199 true _ ?side99  A9.out).mono ?_); (case side99 => first | exact HG.out | exact Glob.below HG.out (by repeat (first | (with_reducible first | exact HB.out | apply below_alloc | apply pw_below_drewN | apply below_drew1) | exact HB.out))); rintro e w13 ⟨rfl, hb⟩; refine ⟨_, rfl, ?_⟩; have n0_ := Aside0.mk (below_step (by repeat (first | (with_reducible first | exact HB.out | apply below_alloc | apply pw_below_drewN | apply below_drew1) | exact HB.out)) hb); clear HB; have HB := n0_; clear n0_; (try clear hb); (try clear hb2); (try clear hk); (try clear hi)))
      go_ret3
      exact ⟨by first | rfl | (simp [errW_none, errW_some] <;> rfl) | (simp [*, errW_none, errW_some] <;> rfl), by repeat (first | (with_reducible first | exact HB.out | apply below_alloc | apply pw_below_drewN | apply below_drew1) | exact HB.out)⟩
    ·replace c10 := Bool.eq_false_iff.mpr c10
     subst c10
     have H1 : (some (0, 0, false)) = some (r1, r2, r3) := by rw [if_neg (show ¬ (false = true) by decide)] at H; exact H
     clear H
     have H := H1
     clear H1
     simp only [Option.some.injEq, Prod.mk.injEq] at H
     obtain ⟨rfl, rfl, rfl⟩ := H
     go_wp2_with (first | ((with_reducible refine gate_callee (f := 67) rfl ?_); refine goesL_ (some 24) rfl rfl Tryd.func67 (by kernel_rfl) rfl #[.string a0, .int .i64 (wrap64 (a1 + 1))] rfl (by (try simp only [List.map_toArray, List.map_cons, List.map_nil]); first | done | rfl | (simp only [List.length_drop, List.length_take]; rfl)) ?_; (with_reducible refine (plenumref02_ReadUnsigned.calls kj2 a0 (wrap64 (a1 + 1)) t198 t199 false _ ?side99  A9.out).mono ?_); (case side99 => first | exact HG.out | exact Glob.below HG.out (by repeat (first | (with_reducible first | exact HB.out | apply below_alloc | apply pw_below_drewN | apply below_drew1) | exact HB.out))); rintro e w14 ⟨rfl, hb⟩; refine ⟨_, rfl, ?_⟩; have n0_ := Aside0.mk (below_step (by repeat (first | (with_reducible first | exact HB.out | apply below_alloc | apply pw_below_drewN | apply below_drew1) | exact HB.out)) hb); clear HB; have HB := n0_; clear n0_; (try clear hb); (try clear hb2); (try clear hk); (try clear hi)))
     go_ret3
     exact ⟨by first | rfl | (simp [errW_none, errW_some] <;> rfl) | (simp [*, errW_none, errW_some] <;> rfl), by repeat (first | (with_reducible first | exact HB.out | apply below_alloc | apply pw_below_drewN | apply below_drew1) | exact HB.out)⟩
end Go.Proofs.YtbccjcdmpiolpaaDoor.T
end
section
namespace Go.Proofs.YtbccjcdmpiolpaaDoor.T
open Go.RowKit Go.Proofs.YtbccjcdmpiolpaaDoorW.PrintWords Go.Proofs.YtbccjcdmpiolpaaDoorW.PrintLast Go.Proofs.YtbccjcdmpiolpaaDoorW.PrintMore
attribute [local go_sem] max2_int min2_int max_two min_two max_three min_three max_four min_four
set_option linter.unusedVariables false
set_option linter.unusedSimpArgs false
def plenumref02_ReadText.j0 : Nat → ByteArray → Int → Bool → Option (ByteArray × Int × Bool)
 | 0, _, _, _ => none
 | k + 1, x0, x1, x19 => if x19 = true then (some ((⟨#[]⟩ : ByteArray), 0, false)) else ((plenumref02_ReadUnsigned.f k x0 (wrap64 (x1 + 1))).bind fun bt204 => (if bt204.2.2 = true then (if bt204.1 > 65535 then (some ((⟨#[]⟩ : ByteArray), 0, false)) else (if (wrap64 (bt204.1)) > (wrap64 ((x0.size : Int) - bt204.2.1)) then (some ((⟨#[]⟩ : ByteArray), 0, false)) else (if 0 ≤ bt204.2.1 then (if bt204.2.1 ≤ (wrap64 (bt204.2.1 + (wrap64 (bt204.1)))) then (if (wrap64 (bt204.2.1 + (wrap64 (bt204.1)))) ≤ (x0.size : Int) then (some (x0.extract (bt204.2.1 : Int).toNat ((wrap64 (bt204.2.1 + (wrap64 (bt204.1)))) : Int).toNat, wrap64 (bt204.2.1 + (wrap64 (bt204.1))), true)) else (none)) else (none)) else (none)))) else (some ((⟨#[]⟩ : ByteArray), 0, false))))
def plenumref02_ReadText.f (k : Nat) (a0 : ByteArray) (a1 : Int) : Option (ByteArray × Int × Bool) := if a1 ≥ (a0.size : Int) then (plenumref02_ReadText.j0 k a0 a1 true) else (if 0 ≤ a1 then (if a1 < (a0.size : Int) then (plenumref02_ReadText.j0 k a0 a1 ((bt a0 a1) != 48)) else (none)) else (none))
set_option maxHeartbeats 8000000 in
set_option maxRecDepth 100000 in
theorem plenumref02_ReadText.calls (k : Nat) (a0 : ByteArray) (a1 : Int) (r1 : ByteArray) (r2 : Int) (r3 : Bool) (w : World) (hG : Glob w) (h : plenumref02_ReadText.f k a0 a1 = some (r1, r2, r3)) :
  Calls Tryd.prog 66 #[.string a0, .int .i64 a1] w fun e w' => e = .returned (.tuple #[.string r1, .int .i64 r2, .bool r3]) ∧ Below w.heap.size w w' := by
 have HG := Aside0.mk hG
 clear hG
 have HB := Aside0.mk (Below.refl w.heap.size w)
 have H : (if a1 ≥ (a0.size : Int) then (plenumref02_ReadText.j0 k a0 a1 true) else (if 0 ≤ a1 then (if a1 < (a0.size : Int) then (plenumref02_ReadText.j0 k a0 a1 ((bt a0 a1) != 48)) else (none)) else (none))) = some (r1, r2, r3) := h
 clear h
 have HC3 := Aside0.mk H
 clear H
 go_enter Tryd.func66, Tryd.ntmps66
 go_upto_region 1 with (fail)
 go_cut [19] (fun v19 wc => ∃ (kq : Nat) (x19_2 : Bool), v19 = .bool x19_2 ∧ Aside0 (plenumref02_ReadText.j0 kq a0 a1 x19_2 = some (r1, r2, r3)) ∧ Aside0 (kq ≤ k) ∧ Aside0 (Below w.heap.size w wc))
 case first =>
  have H := HC3.out
  clear HC3
  by_cases c4 : a1 ≥ (a0.size : Int)
  ·rw [if_pos c4] at H
   have c4b0 : decide ((a0.size : Int) ≤ a1) = true := decide_eq_true c4
   clear c4
   (first | rw [c4b0] | (simp only [i64_w, i32_w]; rw [c4b0]) | skip)
   have H' := Aside0.mk H
   clear H
   go_wp2
   go_meet
   case rel => exact ⟨_, (true), (by first | rfl | (simp; done) | (simp [*]; done)), H', ⟨by first | omega | exact Nat.le_refl _⟩, ⟨by repeat (first | (with_reducible first | exact HB.out | apply below_alloc | apply pw_below_drewN | apply below_drew1) | exact HB.out)⟩⟩
  ·rw [if_neg c4] at H
   have c4b0 : decide ((a0.size : Int) ≤ a1) = false := decide_eq_false c4
   clear c4
   (first | rw [c4b0] | (simp only [i64_w, i32_w]; rw [c4b0]) | skip)
   by_cases c5 : 0 ≤ a1
   ·rw [if_pos c5] at H
    have c5b0 : decide (0 ≤ a1) = true := decide_eq_true c5
    clear c5
    by_cases c6 : a1 < (a0.size : Int)
    ·rw [if_pos c6] at H
     have c6b0 : decide (a1 < (a0.size : Int)) = true := decide_eq_true c6
     clear c6
     have H' := Aside0.mk H
     clear H
     have p7 : 0 ≤ (a1 : Int) := of_decide_eq_true (by first | (with_reducible assumption) | assumption)
     have q7 : a1 < (a0.size : Int) := of_decide_eq_true (by first | (with_reducible assumption) | assumption)
     have hx7 := bt_at a0 a1
     replace p7 := eq_true p7
     replace q7 := eq_true q7
     go_wp2
     go_meet
     case rel => exact ⟨_, (((bt a0 a1) != 48)), (by first | rfl | (simp; done) | (simp [*]; done)), H', ⟨by first | omega | exact Nat.le_refl _⟩, ⟨by repeat (first | (with_reducible first | exact HB.out | apply below_alloc | apply pw_below_drewN | apply below_drew1) | exact HB.out)⟩⟩
    ·rw [if_neg c6] at H
     exact absurd H (by simp)
   ·rw [if_neg c5] at H
    exact absurd H (by simp)
 case rest =>
  clear HC3
  try clear p2
  try clear c4
  try clear c4b0
  try clear c5
  try clear c5b0
  try clear c6
  try clear c6b0
  try clear p7
  try clear q7
  try clear hx7
  try clear p7
  try clear q7
  obtain ⟨kq, x19_2, rfl, HA, HJ2, HB⟩ := hcut
  cases kq with
  | zero => exact absurd HA.out (by simp [plenumref02_ReadText.j0])
  | succ kj2 =>
   have H := HA.out
   clear HA
   simp only [plenumref02_ReadText.j0] at H
   by_cases c8 : x19_2 = true
   ·subst c8
    have H1 : (some ((⟨#[]⟩ : ByteArray), 0, false)) = some (r1, r2, r3) := by rw [if_pos rfl] at H; exact H
    clear H
    have H := H1
    clear H1
    simp only [Option.some.injEq, Prod.mk.injEq] at H
    obtain ⟨rfl, rfl, rfl⟩ := H
    go_wp2
    go_ret3
    exact ⟨by first | rfl | (simp [errW_none, errW_some] <;> rfl) | (simp [*, errW_none, errW_some] <;> rfl), by repeat (first | (with_reducible first | exact HB.out | apply below_alloc | apply pw_below_drewN | apply below_drew1) | exact HB.out)⟩
   ·replace c8 := Bool.eq_false_iff.mpr c8
    subst c8
    have H1 : ((plenumref02_ReadUnsigned.f kj2 a0 (wrap64 (a1 + 1))).bind fun bt204 => (if bt204.2.2 = true then (if bt204.1 > 65535 then (some ((⟨#[]⟩ : ByteArray), 0, false)) else (if (wrap64 (bt204.1)) > (wrap64 ((a0.size : Int) - bt204.2.1)) then (some ((⟨#[]⟩ : ByteArray), 0, false)) else (if 0 ≤ bt204.2.1 then (if bt204.2.1 ≤ (wrap64 (bt204.2.1 + (wrap64 (bt204.1)))) then (if (wrap64 (bt204.2.1 + (wrap64 (bt204.1)))) ≤ (a0.size : Int) then (some (a0.extract (bt204.2.1 : Int).toNat ((wrap64 (bt204.2.1 + (wrap64 (bt204.1)))) : Int).toNat, wrap64 (bt204.2.1 + (wrap64 (bt204.1))), true)) else (none)) else (none)) else (none)))) else (some ((⟨#[]⟩ : ByteArray), 0, false)))) = some (r1, r2, r3) := by rw [if_neg (show ¬ (false = true) by decide)] at H; exact H
    clear H
    have H := H1
    clear H1
    replace H := Option.bind_eq_some_iff.mp H
    obtain ⟨⟨t204, t205, t206⟩, A90, H⟩ := H
    replace H : (if t206 = true then (if t204 > 65535 then (some ((⟨#[]⟩ : ByteArray), 0, false)) else (if (wrap64 (t204)) > (wrap64 ((a0.size : Int) - t205)) then (some ((⟨#[]⟩ : ByteArray), 0, false)) else (if 0 ≤ t205 then (if t205 ≤ (wrap64 (t205 + (wrap64 (t204)))) then (if (wrap64 (t205 + (wrap64 (t204)))) ≤ (a0.size : Int) then (some (a0.extract (t205 : Int).toNat ((wrap64 (t205 + (wrap64 (t204)))) : Int).toNat, wrap64 (t205 + (wrap64 (t204))), true)) else (none)) else (none)) else (none)))) else (some ((⟨#[]⟩ : ByteArray), 0, false))) = some (r1, r2, r3) := H
    have A9 := Aside0.mk A90
    clear A90
    by_cases c10 : t206 = true
    ·subst c10
     have H1 : (if t204 > 65535 then (some ((⟨#[]⟩ : ByteArray), 0, false)) else (if (wrap64 (t204)) > (wrap64 ((a0.size : Int) - t205)) then (some ((⟨#[]⟩ : ByteArray), 0, false)) else (if 0 ≤ t205 then (if t205 ≤ (wrap64 (t205 + (wrap64 (t204)))) then (if (wrap64 (t205 + (wrap64 (t204)))) ≤ (a0.size : Int) then (some (a0.extract (t205 : Int).toNat ((wrap64 (t205 + (wrap64 (t204)))) : Int).toNat, wrap64 (t205 + (wrap64 (t204))), true)) else (none)) else (none)) else (none)))) = some (r1, r2, r3) := by rw [if_pos rfl] at H; exact H
     clear H
     have H := H1
     clear H1
     by_cases c11 : t204 > 65535
     ·rw [if_pos c11] at H
      have c11b0 : decide (65535 < t204) = true := decide_eq_true c11
      clear c11
      simp only [Option.some.injEq, Prod.mk.injEq] at H
      obtain ⟨rfl, rfl, rfl⟩ := H
      go_wp2_with (first | ((with_reducible refine gate_callee (f := 67) rfl ?_); refine goesL_ (some 24) rfl rfl Tryd.func67 (by kernel_rfl) rfl #[.string a0, .int .i64 (wrap64 (a1 + 1))] rfl (by (try simp only [List.map_toArray, List.map_cons, List.map_nil]); first | done | rfl | (simp only [List.length_drop, List.length_take]; rfl)) ?_; (with_reducible refine (plenumref02_ReadUnsigned.calls kj2 a0 (wrap64 (a1 + 1)) t204 t205 true _ ?side99  A9.out).mono ?_); (case side99 => first | exact HG.out | exact Glob.below HG.out (by repeat (first | (with_reducible first | exact HB.out | apply below_alloc | apply pw_below_drewN | apply below_drew1) | exact HB.out))); rintro e w12 ⟨rfl, hb⟩; refine ⟨_, rfl, ?_⟩; have n0_ := Aside0.mk (below_step (by repeat (first | (with_reducible first | exact HB.out | apply below_alloc | apply pw_below_drewN | apply below_drew1) | exact HB.out)) hb); clear HB; have HB := n0_; clear n0_; (try clear hb); (try clear hb2); (try clear hk); (try clear hi)))
      go_ret3
      exact ⟨by first | rfl | (simp [errW_none, errW_some] <;> rfl) | (simp [*, errW_none, errW_some] <;> rfl), by repeat (first | (with_reducible first | exact HB.out | apply below_alloc | apply pw_below_drewN | apply below_drew1) | exact HB.out)⟩
     ·rw [if_neg c11] at H
      have c11b0 : decide (65535 < t204) = false := decide_eq_false c11
      clear c11
      by_cases c13 : (wrap64 (t204)) > (wrap64 ((a0.size : Int) - t205))
      ·rw [if_pos c13] at H
       have c13b0 : decide ((wrap64 ((a0.size : Int) - t205)) < (wrap64 (t204))) = true := decide_eq_true c13
       clear c13
       simp only [Option.some.injEq, Prod.mk.injEq] at H
       obtain ⟨rfl, rfl, rfl⟩ := H
       go_wp2_with (first | ((with_reducible refine gate_callee (f := 67) rfl ?_); refine goesL_ (some 24) rfl rfl Tryd.func67 (by kernel_rfl) rfl #[.string a0, .int .i64 (wrap64 (a1 + 1))] rfl (by (try simp only [List.map_toArray, List.map_cons, List.map_nil]); first | done | rfl | (simp only [List.length_drop, List.length_take]; rfl)) ?_; (with_reducible refine (plenumref02_ReadUnsigned.calls kj2 a0 (wrap64 (a1 + 1)) t204 t205 true _ ?side99  A9.out).mono ?_); (case side99 => first | exact HG.out | exact Glob.below HG.out (by repeat (first | (with_reducible first | exact HB.out | apply below_alloc | apply pw_below_drewN | apply below_drew1) | exact HB.out))); rintro e w14 ⟨rfl, hb⟩; refine ⟨_, rfl, ?_⟩; have n0_ := Aside0.mk (below_step (by repeat (first | (with_reducible first | exact HB.out | apply below_alloc | apply pw_below_drewN | apply below_drew1) | exact HB.out)) hb); clear HB; have HB := n0_; clear n0_; (try clear hb); (try clear hb2); (try clear hk); (try clear hi)))
       go_ret3
       exact ⟨by first | rfl | (simp [errW_none, errW_some] <;> rfl) | (simp [*, errW_none, errW_some] <;> rfl), by repeat (first | (with_reducible first | exact HB.out | apply below_alloc | apply pw_below_drewN | apply below_drew1) | exact HB.out)⟩
      ·rw [if_neg c13] at H
       have c13b0 : decide ((wrap64 ((a0.size : Int) - t205)) < (wrap64 (t204))) = false := decide_eq_false c13
       clear c13
       by_cases c15 : 0 ≤ t205
       ·rw [if_pos c15] at H
        have c15b0 := eq_true c15
        have c15b1 : decide (0 ≤ t205) = true := decide_eq_true c15
        clear c15
        by_cases c16 : t205 ≤ (wrap64 (t205 + (wrap64 (t204))))
        ·rw [if_pos c16] at H
         have c16b0 := eq_true c16
         have c16b1 : decide (t205 ≤ (wrap64 (t205 + (wrap64 (t204))))) = true := decide_eq_true c16
         by_cases c17 : (wrap64 (t205 + (wrap64 (t204)))) ≤ (a0.size : Int)
         ·rw [if_pos c17] at H
          have c17b0 := eq_true c17
          have c17b1 : decide ((wrap64 (t205 + (wrap64 (t204)))) ≤ (a0.size : Int)) = true := decide_eq_true c17
          simp only [Option.some.injEq, Prod.mk.injEq] at H
          obtain ⟨rfl, rfl, rfl⟩ := H
          go_wp2_with (first | ((with_reducible refine gate_callee (f := 67) rfl ?_); refine goesL_ (some 24) rfl rfl Tryd.func67 (by kernel_rfl) rfl #[.string a0, .int .i64 (wrap64 (a1 + 1))] rfl (by (try simp only [List.map_toArray, List.map_cons, List.map_nil]); first | done | rfl | (simp only [List.length_drop, List.length_take]; rfl)) ?_; (with_reducible refine (plenumref02_ReadUnsigned.calls kj2 a0 (wrap64 (a1 + 1)) t204 t205 true _ ?side99  A9.out).mono ?_); (case side99 => first | exact HG.out | exact Glob.below HG.out (by repeat (first | (with_reducible first | exact HB.out | apply below_alloc | apply pw_below_drewN | apply below_drew1) | exact HB.out))); rintro e w18 ⟨rfl, hb⟩; refine ⟨_, rfl, ?_⟩; have n0_ := Aside0.mk (below_step (by repeat (first | (with_reducible first | exact HB.out | apply below_alloc | apply pw_below_drewN | apply below_drew1) | exact HB.out)) hb); clear HB; have HB := n0_; clear n0_; (try clear hb); (try clear hb2); (try clear hk); (try clear hi)))
          go_ret3
          exact ⟨by first | rfl | (simp [errW_none, errW_some] <;> rfl) | (simp [*, errW_none, errW_some] <;> rfl), by repeat (first | (with_reducible first | exact HB.out | apply below_alloc | apply pw_below_drewN | apply below_drew1) | exact HB.out)⟩
         ·rw [if_neg c17] at H
          exact absurd H (by simp)
        ·rw [if_neg c16] at H
         exact absurd H (by simp)
       ·rw [if_neg c15] at H
        exact absurd H (by simp)
    ·replace c10 := Bool.eq_false_iff.mpr c10
     subst c10
     have H1 : (some ((⟨#[]⟩ : ByteArray), 0, false)) = some (r1, r2, r3) := by rw [if_neg (show ¬ (false = true) by decide)] at H; exact H
     clear H
     have H := H1
     clear H1
     simp only [Option.some.injEq, Prod.mk.injEq] at H
     obtain ⟨rfl, rfl, rfl⟩ := H
     go_wp2_with (first | ((with_reducible refine gate_callee (f := 67) rfl ?_); refine goesL_ (some 24) rfl rfl Tryd.func67 (by kernel_rfl) rfl #[.string a0, .int .i64 (wrap64 (a1 + 1))] rfl (by (try simp only [List.map_toArray, List.map_cons, List.map_nil]); first | done | rfl | (simp only [List.length_drop, List.length_take]; rfl)) ?_; (with_reducible refine (plenumref02_ReadUnsigned.calls kj2 a0 (wrap64 (a1 + 1)) t204 t205 false _ ?side99  A9.out).mono ?_); (case side99 => first | exact HG.out | exact Glob.below HG.out (by repeat (first | (with_reducible first | exact HB.out | apply below_alloc | apply pw_below_drewN | apply below_drew1) | exact HB.out))); rintro e w19 ⟨rfl, hb⟩; refine ⟨_, rfl, ?_⟩; have n0_ := Aside0.mk (below_step (by repeat (first | (with_reducible first | exact HB.out | apply below_alloc | apply pw_below_drewN | apply below_drew1) | exact HB.out)) hb); clear HB; have HB := n0_; clear n0_; (try clear hb); (try clear hb2); (try clear hk); (try clear hi)))
     go_ret3
     exact ⟨by first | rfl | (simp [errW_none, errW_some] <;> rfl) | (simp [*, errW_none, errW_some] <;> rfl), by repeat (first | (with_reducible first | exact HB.out | apply below_alloc | apply pw_below_drewN | apply below_drew1) | exact HB.out)⟩
end Go.Proofs.YtbccjcdmpiolpaaDoor.T
end
section
namespace Go.Proofs.YtbccjcdmpiolpaaDoor.Pure
open Go.RowKit Go.Proofs.YtbccjcdmpiolpaaDoor.T Go.Proofs.YtbccjcdmpiolpaaDoorW.PrintWords Go.Proofs.YtbccjcdmpiolpaaDoorW.PrintLast Go.Proofs.YtbccjcdmpiolpaaDoorW.PrintMore
set_option linter.unusedVariables false
set_option linter.unusedSimpArgs false
def beL (V : Int) : Nat → List Int
 | 0 => []
 | n + 1 => beL (V / 256) n ++ [V % 256]
theorem beL_length (V : Int) (n : Nat) : (beL V n).length = n := by
 induction n generalizing V with
 | zero => rfl
 | succ n ih => simp [beL, ih]
theorem strOfNums_size (l : List Int) : (strOfNums l).size = l.length := by
 show ((l.map fun n => UInt8.ofNat n.toNat).toArray).size = _
 simp
theorem refU_loop : ∀ (d : Nat) (x0 : Int) (x3 : List Int) (k : Nat), 0 ≤ x0 → x0 < 18446744073709551616 → nb x0 = (d : Int) + 1 → x3.length + d ≤ 100 →
  plenumref02_Unsigned.l0 (k + d + 1) x0 x3 = some (strOfNums ((16 + ((d + x3.length : Nat) : Int)) :: (beL (x0 / 256) d ++ x3))) := by
 intro d
 induction d with
 | zero =>
  intro x0 x3 k h0 h1 h2 h3
  have hx : ¬ x0 > 255 := by intro h; unfold nb at h2; omega
  show plenumref02_Unsigned.l0 (k + 1) x0 x3 = _
  rw [plenumref02_Unsigned.l0, if_neg hx]
  simp only [Option.bind_some]
  rw [if_pos (by simp; omega), w64 (n := 16 + (x3.length : Int)) (by omega) (by omega), Int.emod_eq_of_lt (by omega) (by omega)]
  simp [beL]
 | succ d ih =>
  intro x0 x3 k h0 h1 h2 h3
  have hx : x0 > 255 := by have := @nb_small x0; omega
  show plenumref02_Unsigned.l0 ((k + d + 1) + 1) x0 x3 = _
  rw [plenumref02_Unsigned.l0, if_pos hx]
  simp only [Option.bind_some]
  rw [if_pos (by simp; omega), Int.tdiv_eq_ediv_of_nonneg h0, u64w, Int.emod_eq_of_lt (b := 18446744073709551616) (by omega) (by omega), ih _ _ k (by omega) (by omega) (by rw [nb_div hx h1]; omega) (by simp; omega)]
  rw [show d + ([x0 / 256 % 256] ++ x3).length = d + 1 + x3.length by simp; omega]
  simp [beL]
theorem refU_eq (k : Nat) (V : Int) (h0 : 0 ≤ V) (h1 : V < 18446744073709551616) : plenumref02_Unsigned.f (k + 8) V = some (strOfNums ((16 + nb V) :: beL V (nb V).toNat)) := by
 have hr := nb_range V
 have := refU_loop (nb V - 1).toNat V [V % 256] (k + 8 - (nb V - 1).toNat - 1) h0 h1 (by omega) (by simp; omega)
 rw [show k + 8 - (nb V - 1).toNat - 1 + (nb V - 1).toNat + 1 = k + 8 by omega] at this
 unfold plenumref02_Unsigned.f
 rw [this]
 congr 2
 obtain ⟨m, hm⟩ : ∃ m : Nat, nb V = (m : Int) + 1 := ⟨(nb V - 1).toNat, by omega⟩
 rw [hm, show ((m : Int) + 1 - 1).toNat = m by omega, show ((m : Int) + 1).toNat = m + 1 by omega]
 congr 1
theorem refS_loop : ∀ (d : Nat) (x0 : Int) (x3 : List Int) (k : Nat), -9223372036854775808 ≤ x0 → x0 ≤ 9223372036854775807 → ss x0 = (d : Int) + 1 → x3.length + d ≤ 100 →
  plenumref02_Signed.l0 (k + d + 1) x0 x3 = some (strOfNums ((32 + ((d + x3.length : Nat) : Int)) :: (beL (x0 / 256) d ++ x3))) := by
 intro d
 induction d with
 | zero =>
  intro x0 x3 k h0 h1 h2 h3
  have hx : -128 ≤ x0 ∧ x0 ≤ 127 := by unfold ss sb at h2; omega
  show plenumref02_Signed.l0 (k + 1) x0 x3 = _
  rw [plenumref02_Signed.l0, if_neg (by omega), if_neg (by omega)]
  simp only [Option.bind_some]
  rw [if_pos (by simp; omega), w64 (n := 32 + (x3.length : Int)) (by omega) (by omega), Int.emod_eq_of_lt (by omega) (by omega)]
  simp [beL]
 | succ d ih =>
  intro x0 x3 k h0 h1 h2 h3
  have hx : x0 < -128 ∨ 127 < x0 := by have := @ss_small x0; omega
  have e := ih (x0 / 256) ([x0 / 256 % 256] ++ x3) k (by omega) (by omega) (by rw [ss_div hx h0 h1]; omega) (by simp; omega)
  show plenumref02_Signed.l0 ((k + d + 1) + 1) x0 x3 = _
  have e2 : some (strOfNums ((32 + ((d + ([x0 / 256 % 256] ++ x3).length : Nat) : Int)) :: (beL (x0 / 256 / 256) d ++ ([x0 / 256 % 256] ++ x3)))) = some (strOfNums ((32 + ((d + 1 + x3.length : Nat) : Int)) :: (beL (x0 / 256) (d + 1) ++ x3))) := by
   rw [show d + ([x0 / 256 % 256] ++ x3).length = d + 1 + x3.length by simp; omega]
   simp [beL]
  rw [plenumref02_Signed.l0]
  by_cases c : x0 < -128
  ·rw [if_pos c]
   simp only [Option.bind_some]
   rw [if_pos (by simp; omega), e, e2]
  ·rw [if_neg c, if_pos (by omega)]
   simp only [Option.bind_some]
   rw [if_pos (by simp; omega), e, e2]
theorem refS_eq (k : Nat) (V : Int) (h0 : -9223372036854775808 ≤ V) (h1 : V ≤ 9223372036854775807) : plenumref02_Signed.f (k + 8) V = some (strOfNums ((32 + ss V) :: beL V (ss V).toNat)) := by
 have hr := ss_range V h0 h1
 have := refS_loop (ss V - 1).toNat V [V % 256] (k + 8 - (ss V - 1).toNat - 1) h0 h1 (by omega) (by simp; omega)
 rw [show k + 8 - (ss V - 1).toNat - 1 + (ss V - 1).toNat + 1 = k + 8 by omega] at this
 unfold plenumref02_Signed.f
 rw [this]
 congr 2
 obtain ⟨m, hm⟩ : ∃ m : Nat, ss V = (m : Int) + 1 := ⟨(ss V - 1).toNat, by omega⟩
 rw [hm, show ((m : Int) + 1 - 1).toNat = m by omega, show ((m : Int) + 1).toNat = m + 1 by omega]
 congr 1
theorem ext_size (s : ByteArray) (i j : Nat) (h : i ≤ j) (hj : j ≤ s.size) : (s.extract i j).size = j - i := by
 rw [ByteArray.size_extract]; omega
theorem bt_ext (s : ByteArray) (i j : Nat) (q : Int) (h : i ≤ j) (hj : j ≤ s.size) (h0 : 0 ≤ q) (h1 : q < (j : Int) - i) : bt (s.extract i j) q = bt s ((i : Int) + q) := by
 unfold bt
 rw [dif_pos (by rw [ext_size s i j h hj]; omega), dif_pos (by omega)]
 rw [ByteArray.getElem_extract]
 congr 3
 omega
def numS (s : ByteArray) (p lead : Int) : Bool := decide (p < (s.size : Int)) && decide (lead < bt s p) && decide (bt s p ≤ lead + 8) && decide (p + 1 + (cnt s p : Int) ≤ (s.size : Int))
theorem refNumber_eq (k : Nat) (s : ByteArray) (p lead : Int) (hl : lead = 16 ∨ lead = 32) (hp : 0 ≤ p) (hz : s.size ≤ 140737488355327) :
  plenumref02_number.f (k + 2) s p lead = some (if numS s p lead = true then (s.extract (p + 1).toNat (p + 1 + (cnt s p : Int)).toNat, true) else ((⟨#[]⟩ : ByteArray), false)) := by
 unfold plenumref02_number.f numS
 have hb := bt_range s p
 by_cases c1 : p ≥ (s.size : Int)
 ·rw [if_pos c1, decide_eq_false (by omega)]
  simp only [plenumref02_number.j0, if_true, Bool.false_and, Bool.false_eq_true, if_false]
 ·rw [if_neg c1, if_pos hp, if_pos (by omega), decide_eq_true (p := p < (s.size : Int)) (by omega)]
  by_cases c2 : bt s p ≤ lead
  ·rw [if_pos c2, decide_eq_false (p := lead < bt s p) (by omega)]
   simp only [plenumref02_number.j0, if_true, Bool.false_and, Bool.true_and, Bool.false_eq_true, if_false]
  ·rw [if_neg c2, decide_eq_true (p := lead < bt s p) (by omega)]
   by_cases c3 : bt s p > (lead + 8) % 256
   ·rw [decide_eq_true c3, decide_eq_false (p := bt s p ≤ lead + 8) (by omega)]
    simp only [plenumref02_number.j0, if_true, Bool.false_and, Bool.true_and, Bool.false_eq_true, if_false]
   ·rw [decide_eq_false c3, decide_eq_true (p := bt s p ≤ lead + 8) (by omega)]
    have hc : ((bt s p) - lead) % 256 = (cnt s p : Int) := by unfold cnt; omega
    have hc8 : 1 ≤ cnt s p ∧ cnt s p ≤ 8 := by unfold cnt; omega
    simp only [plenumref02_number.j0, Bool.false_eq_true, if_false, Bool.true_and]
    rw [if_pos hp, if_pos (by omega), hc, w64 (n := (s.size : Int) - p) (by omega) (by omega), w64 (n := (s.size : Int) - p - 1) (by omega) (by omega), w64 (n := p + 1) (by omega) (by omega), w64 (n := p + 1 + (cnt s p : Int)) (by omega) (by omega)]
    by_cases c4 : (cnt s p : Int) > (s.size : Int) - p - 1
    ·rw [if_pos c4, decide_eq_false (by omega)]; simp
    ·rw [if_neg c4, if_pos (by omega), if_pos (by omega), if_pos (by omega), decide_eq_true (by omega)]; simp
theorem numS_16 {s : ByteArray} {p : Int} (hp : 0 ≤ p) : numS s p 16 = true ↔ kindS s p = 3 ∧ p + 1 + (cnt s p : Int) ≤ (s.size : Int) := by
 unfold numS kindS
 simp only [Bool.and_eq_true, decide_eq_true_eq]
 constructor
 ·rintro ⟨⟨⟨a, b⟩, c⟩, d⟩
  rw [if_neg (by omega)]
  exact ⟨kd3.2 ⟨b, c⟩, d⟩
 ·rintro ⟨a, d⟩
  split at a
  ·exact absurd a (by decide)
  ·have := kd3.1 a
   exact ⟨⟨⟨by omega, this.1⟩, this.2⟩, d⟩
theorem numS_32 {s : ByteArray} {p : Int} (hp : 0 ≤ p) : numS s p 32 = true ↔ kindS s p = 4 ∧ p + 1 + (cnt s p : Int) ≤ (s.size : Int) := by
 unfold numS kindS
 simp only [Bool.and_eq_true, decide_eq_true_eq]
 constructor
 ·rintro ⟨⟨⟨a, b⟩, c⟩, d⟩
  rw [if_neg (by omega)]
  exact ⟨kd4.2 ⟨b, c⟩, d⟩
 ·rintro ⟨a, d⟩
  split at a
  ·exact absurd a (by decide)
  ·have := kd4.1 a
   exact ⟨⟨⟨by omega, this.1⟩, this.2⟩, d⟩
theorem cnt_of {s : ByteArray} {p : Int} (h : kindS s p = 3 ∨ kindS s p = 4) : 1 ≤ cnt s p ∧ cnt s p ≤ 8 := by
 obtain ⟨a, b, c⟩ := kindS_in (s := s) (p := p) (by omega)
 rw [c] at h
 unfold cnt
 rcases h with h | h
 ·have := kd3.1 h; omega
 ·have := kd4.1 h; omega
def uS (s : ByteArray) (p : Int) : Option (Int × Int) := if kindS s p = 3 ∧ p + 1 + (cnt s p : Int) ≤ (s.size : Int) ∧ nb (val s p) = (cnt s p : Int) then some (val s p, p + 1 + (cnt s p : Int)) else none
def sS (s : ByteArray) (p : Int) : Option (Int × Int) := if kindS s p = 4 ∧ p + 1 + (cnt s p : Int) ≤ (s.size : Int) ∧ ss (sgn (cnt s p) (val s p)) = (cnt s p : Int) then some (sgn (cnt s p) (val s p), p + 1 + (cnt s p : Int)) else none
def opt3 (o : Option (Int × Int)) : Int × Int × Bool := match o with | some (v, e) => (v, e, true) | none => (0, 0, false)
end Go.Proofs.YtbccjcdmpiolpaaDoor.Pure
end
section
namespace Go.Proofs.YtbccjcdmpiolpaaDoor.Pure
open Go.RowKit Go.Proofs.YtbccjcdmpiolpaaDoor.T Go.Proofs.YtbccjcdmpiolpaaDoorW.PrintWords Go.Proofs.YtbccjcdmpiolpaaDoorW.PrintLast Go.Proofs.YtbccjcdmpiolpaaDoorW.PrintMore
set_option linter.unusedVariables false
def beH (V : Int) : Nat → List Int
 | 0 => []
 | n + 1 => (V / 256 ^ n % 256) :: beH V n
theorem beH_snoc (V : Int) (n : Nat) : beH V (n + 1) = beH (V / 256) n ++ [V % 256] := by
 induction n with
 | zero => simp [beH]
 | succ n ih =>
  rw [beH, ih, beH, List.cons_append]
  congr 2
  rw [Int.pow_succ, Int.mul_comm, Int.ediv_ediv_of_nonneg (by decide)]
theorem beL_eq (n : Nat) : ∀ V : Int, beL V n = beH V n := by
 induction n with
 | zero => intro V; rfl
 | succ n ih => intro V; rw [beL, ih, beH_snoc]
theorem number_loop (x : Int) : ∀ (d k : Nat) (acc : List Int), acc.length + d ≤ 100 → d ≤ 8 → codec_number.l0 (k + d + 1) x acc ((d : Int) - 1) = some (acc ++ beH x d) := by
 intro d
 induction d with
 | zero =>
  intro k acc h1 h2
  rw [show k + 0 + 1 = k + 1 by omega, codec_number.l0, if_neg (by omega)]
  simp [beH]
 | succ d ih =>
  intro k acc h1 h2
  have e : shr .u64 x (wrap64 (8 * (d : Int))) = x / 256 ^ d := by
   unfold shr
   rw [w64 (by omega) (by omega), show (8 * (d : Int)).toNat = 8 * d by omega, Nat.min_eq_left (by show 8 * d ≤ 64; omega), Int.pow_mul]
   rfl
  rw [show k + (d + 1) + 1 = (k + d + 1) + 1 by omega, show ((d + 1 : Nat) : Int) - 1 = (d : Int) by omega, codec_number.l0, if_pos (by omega), if_pos (by rw [w64 (by omega) (by omega)]; omega), if_pos (by omega), e, w64 (by omega) (by omega), ih k _ (by simp; omega) (by omega)]
  simp [beH]
theorem number_eq (k : Nat) (tag x : Int) (n : Nat) (h1 : 1 ≤ n) (hn : n ≤ 8) (ht : 0 ≤ tag ∧ tag ≤ 64) : codec_number.f (k + 10) tag x (n : Int) = some ((tag + (n : Int)) :: beH x n) := by
 unfold codec_number.f
 have := number_loop x n (k + 10 - n - 1) [tag + (n : Int)] (by simp; omega) hn
 rw [show k + 10 - n - 1 + n + 1 = k + 10 by omega] at this
 rw [w64 (by omega) (by omega), show (tag + (n : Int) % 256) % 256 = tag + (n : Int) by omega, this]
 rfl
def uB (n : Int) : List Int := (16 + nb n) :: beL n (nb n).toNat
def sB (n : Int) : List Int := (32 + ss n) :: beL n (ss n).toNat
theorem beH_wrap (V : Int) (n : Nat) (hn : n ≤ 8) : beH (IntKind.u64.wrap V) n = beH V n := by
 have key : ∀ i : Nat, i ≤ 7 → IntKind.u64.wrap V / 256 ^ i % 256 = V / 256 ^ i % 256 := fun i hi => by
  rw [u64w]
  obtain rfl | rfl | rfl | rfl | rfl | rfl | rfl | rfl : i = 0 ∨ i = 1 ∨ i = 2 ∨ i = 3 ∨ i = 4 ∨ i = 5 ∨ i = 6 ∨ i = 7 := by omega
  all_goals simp only [Int.reducePow]
  all_goals omega
 induction n with
 | zero => rfl
 | succ n ih => rw [beH, beH, ih (by omega), key n (by omega)]
theorem numUn (k : Nat) (n : Int) (h0 : 0 ≤ n) (h1 : n < 18446744073709551616) : codec_number.f (k + 10) 16 n (nb n) = some (uB n) := by
 have hr := nb_range n
 obtain ⟨m, hm⟩ : ∃ m : Nat, nb n = (m : Int) := ⟨(nb n).toNat, by omega⟩
 unfold uB
 rw [hm, number_eq k 16 n m (by omega) (by omega) (by omega), show ((m : Int)).toNat = m from rfl, beL_eq]
theorem numSg (k : Nat) (n : Int) (h0 : -9223372036854775808 ≤ n) (h1 : n ≤ 9223372036854775807) : codec_number.f (k + 10) 32 (IntKind.u64.wrap n) (ss n) = some (sB n) := by
 have hr := ss_range n h0 h1
 obtain ⟨m, hm⟩ : ∃ m : Nat, ss n = (m : Int) := ⟨(ss n).toNat, by omega⟩
 unfold sB
 rw [hm, number_eq k 32 _ m (by omega) (by omega) (by omega), show ((m : Int)).toNat = m from rfl, beL_eq, beH_wrap n m (by omega)]
theorem uB_len (n : Int) : (uB n).length ≤ 9 := by
 have := nb_range n
 simp [uB, beL_length]
 omega
theorem sB_len (n : Int) (h0 : -9223372036854775808 ≤ n) (h1 : n ≤ 9223372036854775807) : (sB n).length ≤ 9 := by
 have := ss_range n h0 h1
 simp [sB, beL_length]
 omega
theorem strOfNums_app (a b : List Int) : strOfNums (a ++ b) = strOfNums a ++ strOfNums b := by
 apply ByteArray.ext
 rw [ByteArray.data_append]
 simp [strOfNums]
theorem strOfNums_bytes (s : ByteArray) : strOfNums (bytesOf s) = s := by
 apply ByteArray.ext
 apply Array.toList_inj.mp
 show ((bytesOf s).map fun n => UInt8.ofNat n.toNat) = s.data.toList
 unfold bytesOf
 rw [List.map_map]
 conv => rhs; rw [← List.map_id s.data.toList]
 refine List.map_congr_left (fun b _ => ?_)
 show UInt8.ofNat ((b.toNat : Int)).toNat = b
 simp
end Go.Proofs.YtbccjcdmpiolpaaDoor.Pure
end
section
namespace Go.Proofs.YtbccjcdmpiolpaaDoor.T
open Go.RowKit Go.Proofs.YtbccjcdmpiolpaaDoorW.PrintWords Go.Proofs.YtbccjcdmpiolpaaDoorW.PrintLast Go.Proofs.YtbccjcdmpiolpaaDoorW.PrintMore
set_option linter.unusedVariables false
set_option linter.unusedSimpArgs false
def dig1 (h b : Int) : Int := IntKind.u64.wrap (Go.bits .xor .u64 h (IntKind.u64.wrap b) * 1099511628211)
def dig (s : ByteArray) : Nat → Int
 | 0 => 14695981039346656037
 | n + 1 => dig1 (dig s n) (bt s n)
def hexAt (h : Int) (i : Nat) : Int := bt (⟨#[48, 49, 50, 51, 52, 53, 54, 55, 56, 57, 97, 98, 99, 100, 101, 102]⟩ : ByteArray) (Go.bits .and .u64 (h / 2 ^ (60 - 4 * i)) 15)
theorem and15u (x : Int) : 0 ≤ Go.bits .and .u64 x 15 ∧ Go.bits .and .u64 x 15 < 16 := by
 show 0 ≤ IntKind.u64.wrap (((BitVec.ofInt 64 x) &&& (BitVec.ofInt 64 15)).toNat : Int) ∧ IntKind.u64.wrap (((BitVec.ofInt 64 x) &&& (BitVec.ofInt 64 15)).toNat : Int) < 16
 have h : ((BitVec.ofInt 64 x) &&& (BitVec.ofInt 64 15)).toNat ≤ 15 := by
  rw [BitVec.toNat_and]
  exact Nat.and_le_right
 show 0 ≤ ((((BitVec.ofInt 64 x) &&& (BitVec.ofInt 64 15)).toNat : Int) % 18446744073709551616) ∧ ((((BitVec.ofInt 64 x) &&& (BitVec.ofInt 64 15)).toNat : Int) % 18446744073709551616) < 16
 omega
def digits (h : Int) : List Int := (List.range 16).map (hexAt h)
def codec_Digest.f (a0 : ByteArray) : Option (ByteArray) := if a0.size ≤ 9223372036854775807 then some (strOfNums (digits (dig a0 a0.size))) else none
set_option maxHeartbeats 2000000 in
set_option maxRecDepth 100000 in
theorem codec_Digest.calls (a0 : ByteArray) (r : ByteArray) (w : World) (hG : Glob w) (h : codec_Digest.f a0 = some r) :
  Calls Tryd.prog 35 #[.string a0] w fun e w' => e = .returned (.string r) ∧ Below w.heap.size w w' := by
 unfold codec_Digest.f at h
 by_cases hs : a0.size ≤ 9223372036854775807
 ·rw [if_pos hs] at h
  obtain rfl := Option.some.inj h
  clear h hG
  go_enter Tryd.func35, Tryd.ntmps35
  go_wp2_with fail
  go_loop [3, 4, 9] (fun n _ t => ∃ k : Nat, k ≤ a0.size ∧ t = .int .i64 k ∧ n = .int .u64 (dig a0 k)) (fun _ _ t => a0.size - (intOf t).toNat)
  case atStart => exact ⟨0, Nat.zero_le _, rfl, rfl⟩
  case round =>
   obtain ⟨k, hk, rfl, rfl⟩ := hrel
   by_cases hlt : k < a0.size
   ·have hb : (a0[k].toNat : Int) = bt a0 k := bt_at a0 k hlt
    have HD : Hid (dig a0 (k + 1) = dig1 (dig a0 k) (bt a0 k)) := rfl
    generalize dig a0 k = dk at *
    go_wp2
    exact ⟨⟨k + 1, by omega, by go_num, by rw [HD.out]; rfl⟩, by simp [RowKit.intOf]; omega⟩
   ·have hke : k = a0.size := by omega
    subst hke
    go_wp2_with fail
    obtain ⟨d, hd⟩ : ∃ d, d = dig a0 a0.size := ⟨_, rfl⟩
    rw [← hd]
    have HD : Hid (d = dig a0 a0.size) := hd
    clear hd
    have hrow0 : (w.alloc (.cells #[.int .u8 0, .int .u8 0, .int .u8 0, .int .u8 0, .int .u8 0, .int .u8 0, .int .u8 0, .int .u8 0, .int .u8 0, .int .u8 0, .int .u8 0, .int .u8 0, .int .u8 0, .int .u8 0, .int .u8 0, .int .u8 0] 105)).rowIs w.heap.size 105 16 (fun j => if j < 0 then .int .u8 (hexAt d j) else .int .u8 0) := by
     refine World.rowIs_alloc w _ 105 _ (fun i hi => ?_)
     rw [if_neg (Nat.not_lt_zero i)]
     have h16 : i < 16 := hi
     obtain rfl | rfl | rfl | rfl | rfl | rfl | rfl | rfl | rfl | rfl | rfl | rfl | rfl | rfl | rfl | rfl : i = 0 ∨ i = 1 ∨ i = 2 ∨ i = 3 ∨ i = 4 ∨ i = 5 ∨ i = 6 ∨ i = 7 ∨ i = 8 ∨ i = 9 ∨ i = 10 ∨ i = 11 ∨ i = 12 ∨ i = 13 ∨ i = 14 ∨ i = 15 := by omega
     all_goals rfl
    go_loopw [6, 20] (fun _ v wr => ∃ k : Nat, k ≤ 16 ∧ v = .int .i64 k ∧ Hid (wr.rowIs w.heap.size 105 16 (fun j => if j < k then .int .u8 (hexAt d j) else .int .u8 0)) ∧ Hid (Below w.heap.size w wr)) (fun _ v _ => 16 - (intOf v).toNat)
    case atStart => exact ⟨0, by omega, rfl, hrow0, below_alloc (Below.refl _ _) _⟩
    case round =>
     obtain ⟨k, hk, rfl, hrw, hbel⟩ := hrel
     by_cases hlt : k < 16
     ·have hf1 : wr.frozen? ⟨w.heap.size, k, none⟩ = false := hrw.out.frozen _
      have hc1 : wr.cell? ⟨w.heap.size, k, none⟩ = some (.int .u8 0) := by
       refine (hrw.out.cell hlt).trans ?_
       rw [if_neg (by omega)]
      have hq := and15u (d / 2 ^ (60 - 4 * k))
      have hx : hexAt d k = bt (⟨#[48, 49, 50, 51, 52, 53, 54, 55, 56, 57, 97, 98, 99, 100, 101, 102]⟩ : ByteArray) (Go.bits .and .u64 (d / 2 ^ (60 - 4 * k)) 15) := rfl
      have hz : (Go.bits .and .u64 (d / 2 ^ (60 - 4 * k)) 15).toNat < (⟨#[48, 49, 50, 51, 52, 53, 54, 55, 56, 57, 97, 98, 99, 100, 101, 102]⟩ : ByteArray).size := by
       show (Go.bits .and .u64 (d / 2 ^ (60 - 4 * k)) 15).toNat < 16
       omega
      have hv := bt_at (⟨#[48, 49, 50, 51, 52, 53, 54, 55, 56, 57, 97, 98, 99, 100, 101, 102]⟩ : ByteArray) _ hz
      rw [← hx] at hv
      clear hx
      go_wp2
      refine ⟨⟨k + 1, by omega, by go_num, (hrw.out.set k _).congr (fun j _ => ?_), hbel.out.setCell (Nat.le_refl _) _⟩, by simp [RowKit.intOf]; omega⟩
      by_cases e : j = k
      ·subst e
       rw [if_pos rfl, if_pos (by omega), ← hv]
      ·rw [if_neg e]
       by_cases e2 : j < k
       ·rw [if_pos e2, if_pos (by omega)]
       ·rw [if_neg e2, if_neg (by omega)]
     ·have hke : k = 16 := by omega
      subst hke
      have hreads : ReadsInt wr .u8 (some ⟨w.heap.size, 0, none⟩) 16 (digits d) := by
       refine ⟨by simp [digits], by decide, fun _ => ⟨_, rfl, fun j hj => ?_⟩⟩
       have e := hrw.out.cell hj
       simp only [if_pos hj] at e
       rw [show (digits d).getD j 0 = hexAt d j by simp [digits, List.getD_eq_getElem?_getD, List.getElem?_map, List.getElem?_range hj]]
       rw [← e]
       congr 1
       simp [Addr.add]
       exact fun h => h.symm
      have hconv : (convert 88 9 (.slice (some ⟨w.heap.size, 0, none⟩) 16 16)).run Tryd.prog wr = .ok (.string (strOfNums (digits d))) wr :=
       string_of_reads Tryd.underlying88 Tryd.underlying5 Tryd.underlying9 hreads
      go_wp2
      go_ret
      rw [← HD.out]
      exact ⟨rfl, hbel.out⟩
 ·rw [if_neg hs] at h
  cases h
end Go.Proofs.YtbccjcdmpiolpaaDoor.T
end
section
namespace Go.Proofs.YtbccjcdmpiolpaaDoor.T
open Go.RowKit Go.Proofs.YtbccjcdmpiolpaaDoor.Pure Go.Proofs.YtbccjcdmpiolpaaDoorW.PrintWords Go.Proofs.YtbccjcdmpiolpaaDoorW.PrintLast Go.Proofs.YtbccjcdmpiolpaaDoorW.PrintMore
set_option linter.unusedVariables false
set_option linter.unusedSimpArgs false
attribute [local go_sem] max2_int min2_int max_two min_two
theorem intOf_int (k : IntKind) (x : Int) : intOf (.int k x) = x := rfl
abbrev uw (n : Int) : Int := IntKind.u64.wrap n
theorem uw_range (n : Int) : 0 ≤ uw n ∧ uw n < 18446744073709551616 := by
 show 0 ≤ n % 18446744073709551616 ∧ n % 18446744073709551616 < 18446744073709551616
 omega
theorem wrU (B g : Nat) (l : List Int) (n : Int) (w : World) (hG : Aside0 (Glob w)) (hB : B ≤ w.heap.size) (h : WrAt B g l w) (hl : l.length ≤ 100000000) (hn : 0 ≤ n ∧ n < 18446744073709551616) :
  Calls Tryd.prog 46 #[.pointer (some ⟨g, 0, none⟩), .int .u64 n] w fun e w' => WrPost B g (l ++ uB n) w (.tuple #[]) e w' :=
 wr_unsigned 1 10 B g l n _ _ w hG hB h (by have := uB_len n; unfold wrMax; omega) (Aside0.mk (width_eq 0 n (by omega) (by omega))) (Aside0.mk (numUn 0 n (by omega) (by omega)))
theorem wrS (B g : Nat) (l : List Int) (n : Int) (w : World) (hG : Aside0 (Glob w)) (hB : B ≤ w.heap.size) (h : WrAt B g l w) (hl : l.length ≤ 100000000) (hn : -9223372036854775808 ≤ n ∧ n ≤ 9223372036854775807) :
  Calls Tryd.prog 47 #[.pointer (some ⟨g, 0, none⟩), .int .i64 n] w fun e w' => WrPost B g (l ++ sB n) w (.tuple #[]) e w' :=
 wr_signed 1 10 B g l n _ _ w hG hB h (by have := sB_len n (by omega) (by omega); unfold wrMax; omega) (Aside0.mk (spread_eq 0 n (by omega) (by omega))) (Aside0.mk (numSg 0 n (by omega) (by omega)))
theorem wrL (B g : Nat) (l : List Int) (n : Int) (w : World) (hG : Aside0 (Glob w)) (h0 : 0 < B) (hB : B ≤ w.heap.size) (h : WrAt B g l w) (hl : l.length ≤ 100000000) (hn : 0 ≤ n ∧ n ≤ 65535) :
  Calls Tryd.prog 45 #[.pointer (some ⟨g, 0, none⟩), .int .i64 n] w fun e w' => WrPost B g (l ++ ([64] ++ uB n)) w (.int .i64 0) e w' := by
 rw [← List.append_assoc]
 exact wr_list 1 10 B g l n _ _ w hG h0 hB h (by have := uB_len n; unfold wrMax; omega) hn (Aside0.mk (width_eq 0 n (by omega) (by omega))) (Aside0.mk (numUn 0 n (by omega) (by omega)))
theorem wrT (B g : Nat) (l : List Int) (s : ByteArray) (w : World) (hG : Aside0 (Glob w)) (h0 : 0 < B) (hB : B ≤ w.heap.size) (h : WrAt B g l w) (hl : l.length ≤ 100000000) (hn : s.size ≤ 65535) :
  Calls Tryd.prog 48 #[.pointer (some ⟨g, 0, none⟩), .string s] w fun e w' => WrPost B g (l ++ ([48] ++ uB (s.size : Int) ++ bytesOf s)) w (.int .i64 0) e w' := by
 rw [show l ++ ([48] ++ uB (s.size : Int) ++ bytesOf s) = l ++ [48] ++ uB (s.size : Int) ++ bytesOf s by simp only [List.append_assoc]]
 exact wr_text 1 10 B g l s _ _ w hG h0 hB h (by have := uB_len (s.size : Int); unfold wrMax; omega) hn (Aside0.mk (width_eq 0 _ (by omega) (by omega))) (Aside0.mk (numUn 0 _ (by omega) (by omega)))
def recB (x : S44) : List Int := ([64] ++ uB 5) ++ uB (uw x.f0) ++ uB (uw x.f1) ++ uB (uw x.f2.f0) ++ sB x.f2.f1 ++ uB (uw x.f3)
def bodyB (total now : Int) (xs : List S44) : List Int := ([64] ++ uB 3) ++ uB (uw total) ++ uB (uw now) ++ ([64] ++ uB (xs.length : Int)) ++ xs.flatMap recB
def digB (s : ByteArray) : ByteArray := strOfNums (digits (dig s s.size))
def textB (s : ByteArray) : List Int := [48] ++ uB (s.size : Int) ++ bytesOf s
def saveB (total now : Int) (xs : List S44) : List Int := ([64] ++ uB 2) ++ textB (digB (strOfNums (bodyB total now xs))) ++ textB (strOfNums (bodyB total now xs))
def Ok44 (x : S44) : Prop := -9223372036854775808 ≤ x.f2.f1 ∧ x.f2.f1 ≤ 9223372036854775807
theorem recB_len (x : S44) (h : Ok44 x) : (recB x).length ≤ 60 := by
 have h1 := uB_len 5
 have h2 := uB_len (uw x.f0)
 have h3 := uB_len (uw x.f1)
 have h4 := uB_len (uw x.f2.f0)
 have h5 := sB_len x.f2.f1 h.1 h.2
 have h6 := uB_len (uw x.f3)
 unfold recB
 simp only [List.length_append, List.length_cons, List.length_nil]
 omega
theorem recs_len : ∀ (xs : List S44), (∀ x ∈ xs, Ok44 x) → (xs.flatMap recB).length ≤ 60 * xs.length
 | [], _ => by simp
 | x :: xs, h => by
  rw [List.flatMap_cons, List.length_append, List.length_cons]
  have h1 := recB_len x (h x (List.mem_cons_self ..))
  have h2 := recs_len xs (fun y hy => h y (List.mem_cons_of_mem _ hy))
  omega
theorem digB_size (s : ByteArray) : (digB s).size = 16 := by
 unfold digB
 rw [strOfNums_size]
 simp [digits]
theorem R44_keepT {B : Nat} {w w1 : World} {v : Value} {xs : List S44} (h : Kd.R k44 44 w B (fun _ => True) v xs) (hk : KeepT w w1) : Kd.R k44 44 w1 B (fun _ => True) v xs :=
 Kd.R_mono (Kd.R_step (Kd.R_bound h) (fun k hk' hlt => by
  obtain ⟨_, _, _, q, hq, cells, hc⟩ := hk'
  rcases List.mem_cons.1 hq with rfl | hq
  ·rw [hc]
   exact hk.keep k cells 44 hc (by decide) (by decide)
  ·cases hq)) (fun _ _ => trivial)
structure SvI (w : World) (gw : Nat) (l : List Int) (v : Value) (xs : List S44) (wr : World) : Prop where
 wtr : WrAt w.heap.size gw l wr
 bel : Below w.heap.size w wr
 own : Kd.R k44 44 wr w.heap.size (fun _ => True) v xs
structure SvO (wr : World) (go : Nat) (l : List Int) (wz : World) : Prop where
 wtr : WrAt wr.heap.size go l wz
 bel : Below wr.heap.size wr wz
theorem SvO.step {wr wz w1 : World} {go : Nat} {l l' : List Int} {r : Value} {e : Ending} (h : SvO wr go l wz) (hp : WrPost wr.heap.size go l' wz r e w1) : SvO wr go l' w1 := ⟨hp.2.1, h.bel.trans hp.2.2.1⟩
theorem SvO.below {wr wz w1 : World} {go : Nat} {l : List Int} (h : SvO wr go l wz) (hb : Below wz.heap.size wz w1) : SvO wr go l w1 := ⟨h.wtr.below hb, below_step h.bel hb⟩
def SavePost (w : World) (s : ByteArray) (e : Ending) (w' : World) : Prop := e = .returned (.string s) ∧ Below w.heap.size w w'
theorem SvI.step {w wr w1 : World} {gw : Nat} {l l' : List Int} {v r : Value} {xs : List S44} {e : Ending} (h : SvI w gw l v xs wr) (hp : WrPost w.heap.size gw l' wr r e w1) : SvI w gw l' v xs w1 := ⟨hp.2.1, h.bel.trans hp.2.2.1, R44_keepT h.own hp.2.2.2⟩
theorem SvI.below {w wr w1 : World} {gw : Nat} {l : List Int} {v : Value} {xs : List S44} (h : SvI w gw l v xs wr) (hb : Below wr.heap.size wr w1) : SvI w gw l v xs w1 := ⟨h.wtr.below hb, below_step h.bel hb, Kd.R_below h.own hb⟩
structure SvL (w : World) (gw : Nat) (l : List Int) (B g : Nat) (L : Lg) (wr : World) : Prop where
 wtr : WrAt w.heap.size gw l wr
 bel : Below w.heap.size w wr
 log : LogAt B g L wr
theorem SvL.step {w wr w1 : World} {gw B g : Nat} {l l' : List Int} {L : Lg} {r : Value} {e : Ending} (h0 : LogAt B g L w) (h : SvL w gw l B g L wr) (hp : WrPost w.heap.size gw l' wr r e w1) : SvL w gw l' B g L w1 := ⟨hp.2.1, h.bel.trans hp.2.2.1, h0.below (h.bel.trans hp.2.2.1)⟩
set_option maxHeartbeats 16000000 in
set_option maxRecDepth 100000 in
theorem save_calls (B g : Nat) (L : Lg) (w : World) (hG : Glob w) (h : LogAt B g L w) (h0 : 0 < w.heap.size) (hn : L.recs.length ≤ 1040) (hx : ∀ x ∈ L.recs, Ok44 x) :
  Calls Tryd.prog 22 #[.pointer (some ⟨g, 0, none⟩)] w fun e w' => SavePost w (strOfNums (saveB L.total L.now L.recs)) e w' := by
 have HG := Aside0.mk hG
 have HLG := Aside0.mk h
 have H0 := Aside0.mk h0
 have HLN := Aside0.mk (show L.recs.length ≤ 1000000 by omega)
 obtain ⟨xs, HXS⟩ : ∃ xs, Aside0 (L.recs = xs) := ⟨_, ⟨rfl⟩⟩
 rw [HXS.out] at hn hx
 have HXL := Aside0.mk (show 0 ≤ (xs.length : Int) ∧ (xs.length : Int) ≤ 65535 by omega)
 have HXN := Aside0.mk hn
 have HXO := Aside0.mk hx
 have b3 := uB_len 3
 have bt1 := uB_len (uw L.total)
 have bn1 := uB_len (uw L.now)
 have bx1 := uB_len (xs.length : Int)
 obtain ⟨l1, HB1⟩ : ∃ l, Aside0 (([] : List Int) ++ ([64] ++ uB 3) = l) := ⟨_, ⟨rfl⟩⟩
 obtain ⟨l2, HB2⟩ : ∃ l, Aside0 (l1 ++ uB (uw L.total) = l) := ⟨_, ⟨rfl⟩⟩
 obtain ⟨l3, HB3⟩ : ∃ l, Aside0 (l2 ++ uB (uw L.now) = l) := ⟨_, ⟨rfl⟩⟩
 obtain ⟨l4, HB4⟩ : ∃ l, Aside0 (l3 ++ ([64] ++ uB (xs.length : Int)) = l) := ⟨_, ⟨rfl⟩⟩
 have HN1 := Aside0.mk (show l1.length ≤ 100000000 by rw [← HB1.out]; simp only [List.length_append, List.length_cons, List.length_nil]; omega)
 have HN2 := Aside0.mk (show l2.length ≤ 100000000 by rw [← HB2.out, ← HB1.out]; simp only [List.length_append, List.length_cons, List.length_nil]; omega)
 have HN3 := Aside0.mk (show l3.length ≤ 100000000 by rw [← HB3.out, ← HB2.out, ← HB1.out]; simp only [List.length_append, List.length_cons, List.length_nil]; omega)
 have HN4 := Aside0.mk (show l4.length ≤ 1000 by rw [← HB4.out, ← HB3.out, ← HB2.out, ← HB1.out]; simp only [List.length_append, List.length_cons, List.length_nil]; omega)
 clear b3 bt1 bn1 bx1 hn hx
 go_enter Tryd.func22, Tryd.ntmps22
 go_wp2_with (first | ((with_reducible refine gate_dst (N := 9) rfl ?_); refine box_event ?hg (N := 9) ?hd (cs := #[.slice none 0 0]) (t := 90) ?hr ?_; (case hd => rfl); (case hg => rfl); (case hr => first | (go_simp; done) | (go_simp; rfl)); intro gw hgz w0 hbox hb; have HL0 := Aside0.mk (show SvL w gw [] B g L w0 from ⟨⟨_, hbox, by rw [hgz]; exact Nat.le_refl _, Kd.R_nil _ _ _ _ _⟩, hb, HLG.out.below hb⟩); clear hb hbox hgz) | (go_at_call 45; (with_reducible refine (wrL w.heap.size gw [] 3 _ ⟨Glob.base HG.out H0.out HL0.out.bel⟩ H0.out HL0.out.bel.size HL0.out.wtr (by simp) (by decide)).mono ?_); rintro e w1 hp; have HL1 := Aside0.mk (SvL.step HLG.out HL0.out hp); rw [HB1.out] at HL1; obtain ⟨rfl, _⟩ := hp; obtain ⟨vq, rq, fq, hGq, _⟩ := HL1.out.log; have c12 := (blk_cell hGq 12).trans rfl; have c6 := (blk_cell hGq 6).trans rfl; clear hGq) | (go_at_call 46; (with_reducible refine (wrU w.heap.size gw l1 (uw L.total) _ ⟨Glob.base HG.out H0.out HL1.out.bel⟩ HL1.out.bel.size HL1.out.wtr HN1.out (uw_range _)).mono ?_); rintro e w2 hp; have HL2 := Aside0.mk (SvL.step HLG.out HL1.out hp); rw [HB2.out] at HL2; obtain ⟨rfl, _⟩ := hp; clear c12 c6; obtain ⟨vq, rq, fq, hGq, _⟩ := HL2.out.log; have c12 := (blk_cell hGq 12).trans rfl; have c6 := (blk_cell hGq 6).trans rfl; clear hGq) | (go_at_call 46; (with_reducible refine (wrU w.heap.size gw l2 (uw L.now) _ ⟨Glob.base HG.out H0.out HL2.out.bel⟩ HL2.out.bel.size HL2.out.wtr HN2.out (uw_range _)).mono ?_); rintro e w3 hp; have HL3 := Aside0.mk (SvL.step HLG.out HL2.out hp); rw [HB3.out] at HL3; obtain ⟨rfl, _⟩ := hp; clear c12 c6) | (go_at_call 14; (with_reducible refine (records_calls B g L _ HL3.out.log HLN.out).mono ?_); rintro e w4 ⟨v4, rfl, ho, hb⟩; rw [HXS.out] at ho; obtain ⟨A4, c4, e4⟩ := Kd.R_slice ho; subst e4; have HI4 := Aside0.mk (show SvI w gw l3 (.slice A4 xs.length c4) xs w4 from ⟨HL3.out.wtr.below hb, below_step HL3.out.bel hb, Kd.R_lower ho HL3.out.bel.size⟩); clear ho hb) | (go_at_call 45; (with_reducible refine (wrL w.heap.size gw l3 (xs.length : Int) _ ⟨Glob.base HG.out H0.out HI4.out.bel⟩ H0.out HI4.out.bel.size HI4.out.wtr HN3.out HXL.out).mono ?_); rintro e w5 hp; have HI5 := Aside0.mk (SvI.step HI4.out hp); rw [HB4.out] at HI5; obtain ⟨rfl, _⟩ := hp))
 go_loopw [34] (fun i wr => ∃ j : Nat, i = .int .i64 (j : Int) ∧ j ≤ xs.length ∧ Aside0 (SvI w gw (l4 ++ (xs.take j).flatMap recB) (.slice A4 xs.length c4) xs wr)) (fun i _ => xs.length - (intOf i).toNat)
 case atStart => exact ⟨0, by simp, Nat.zero_le _, by rw [List.take_zero, List.flatMap_nil, List.append_nil]; exact HI5⟩
 case round =>
  clear HI5 HI4 HL0 HL1 HL2 HL3
  obtain ⟨j, hk, hj, HI⟩ := hrel
  subst hk
  have HLJ := Aside0.mk (show (l4 ++ (xs.take j).flatMap recB).length ≤ 64000 by
   have h1 := recs_len (xs.take j) (fun x hx => HXO.out x (List.mem_of_mem_take hx))
   rw [List.length_append]
   have h2 : (xs.take j).length ≤ xs.length := by rw [List.length_take]; omega
   have h3 := HXN.out
   have h4 := HN4.out
   omega)
  obtain ⟨lj, HJE⟩ : ∃ l, Aside0 (l4 ++ (xs.take j).flatMap recB = l) := ⟨_, ⟨rfl⟩⟩
  rw [HJE.out] at HI HLJ
  obtain ⟨_, _, hC⟩ := Kd.R_reads' HI.out.own
  by_cases hlt : j < xs.length
  ·as_aux_lemma =>
   have hl1 : decide ((j : Int) < (xs.length : Int)) = true := decide_eq_true (by omega)
   have hl2 : decide (j < xs.length) = true := decide_eq_true hlt
   have hl3 : ((j : Int) < (xs.length : Int)) = True := eq_true (by omega)
   have hl4 : (j < xs.length) = True := eq_true hlt
   obtain ⟨ad, ea, z0, z1, z2, z3, z4, z5⟩ := at_T44 hC (j : Int) (by omega) (by omega)
   subst ea
   rw [Int.toNat_natCast] at z0 z1 z2 z3 z4 z5
   obtain ⟨rx, HRX⟩ : ∃ rx, Aside0 (rd_T44 xs (j : Int) = rx) := ⟨_, ⟨rfl⟩⟩
   rw [HRX.out] at z0 z1 z2 z3 z4 z5
   have HRX2 := Aside0.mk (show rx = xs[j] by rw [← HRX.out]; unfold rd_T44; simp [hlt])
   have HOX := Aside0.mk (show -9223372036854775808 ≤ rx.f2.f1 ∧ rx.f2.f1 ≤ 9223372036854775807 by rw [HRX2.out]; exact HXO.out _ (List.getElem_mem hlt))
   obtain ⟨m1, HM1⟩ : ∃ l, Aside0 (lj ++ ([64] ++ uB 5) = l) := ⟨_, ⟨rfl⟩⟩
   obtain ⟨m2, HM2⟩ : ∃ l, Aside0 (m1 ++ uB (uw rx.f0) = l) := ⟨_, ⟨rfl⟩⟩
   obtain ⟨m3, HM3⟩ : ∃ l, Aside0 (m2 ++ uB (uw rx.f1) = l) := ⟨_, ⟨rfl⟩⟩
   obtain ⟨m4, HM4⟩ : ∃ l, Aside0 (m3 ++ uB (uw rx.f2.f0) = l) := ⟨_, ⟨rfl⟩⟩
   obtain ⟨m5, HM5⟩ : ∃ l, Aside0 (m4 ++ sB rx.f2.f1 = l) := ⟨_, ⟨rfl⟩⟩
   obtain ⟨m6, HM6⟩ : ∃ l, Aside0 (m5 ++ uB (uw rx.f3) = l) := ⟨_, ⟨rfl⟩⟩
   have q0 := uB_len 5
   have q1 := uB_len (uw rx.f0)
   have q2 := uB_len (uw rx.f1)
   have q3 := uB_len (uw rx.f2.f0)
   have q4 := sB_len rx.f2.f1 HOX.out.1 HOX.out.2
   have HP0 := Aside0.mk (show lj.length ≤ 100000000 by have := HLJ.out; omega)
   have HP1 := Aside0.mk (show m1.length ≤ 100000000 by rw [← HM1.out]; have := HLJ.out; simp only [List.length_append, List.length_cons, List.length_nil]; omega)
   have HP2 := Aside0.mk (show m2.length ≤ 100000000 by rw [← HM2.out, ← HM1.out]; have := HLJ.out; simp only [List.length_append, List.length_cons, List.length_nil]; omega)
   have HP3 := Aside0.mk (show m3.length ≤ 100000000 by rw [← HM3.out, ← HM2.out, ← HM1.out]; have := HLJ.out; simp only [List.length_append, List.length_cons, List.length_nil]; omega)
   have HP4 := Aside0.mk (show m4.length ≤ 100000000 by rw [← HM4.out, ← HM3.out, ← HM2.out, ← HM1.out]; have := HLJ.out; simp only [List.length_append, List.length_cons, List.length_nil]; omega)
   have HP5 := Aside0.mk (show m5.length ≤ 100000000 by rw [← HM5.out, ← HM4.out, ← HM3.out, ← HM2.out, ← HM1.out]; have := HLJ.out; simp only [List.length_append, List.length_cons, List.length_nil]; omega)
   have HEND := Aside0.mk (show m6 = l4 ++ (xs.take (j + 1)).flatMap recB by
    rw [List.take_succ_eq_append_getElem hlt, List.flatMap_append, List.flatMap_cons, List.flatMap_nil, List.append_nil, ← List.append_assoc, HJE.out, ← HRX2.out, ← HM6.out, ← HM5.out, ← HM4.out, ← HM3.out, ← HM2.out, ← HM1.out]
    unfold recB
    simp only [List.append_assoc])
   have HLT := Aside0.mk hlt
   have HIS := HI
   clear q0 q1 q2 q3 q4 HRX2
   clear hlt hj hC
   go_wp2_with (first | ((with_reducible refine gate_dst (N := 6) rfl ?_); refine box_event ?hg (N := 6) ?hd (cs := #[.int .i64 0, .int .i64 0, .int .i64 0, .int .i64 0, .int .i64 0, .int .i64 0]) (t := 44) ?hr ?_; (case hd => rfl); (case hg => rfl); (case hr => first | (go_simp; done) | (go_simp; rfl)); intro gx hgx wa hbox hb; have HX0 := Aside0.mk hbox; have HBX := Aside0.mk hb; have HGX := Aside0.mk (show wr.heap.size ≤ gx by rw [hgx]; exact Nat.le_refl _); clear hb hbox hgx) | (refine wpList_store_row rfl 44 (.tmp 6) (.tmp _) rfl gx #[.int .i64 rx.f0, .int .i64 rx.f1, .int .i64 rx.f2.f0, .int .i64 rx.f2.f1, .int .i64 rx.f3, .int .i64 rx.f4] rfl rfl 44 #[.int .i64 0, .int .i64 0, .int .i64 0, .int .i64 0, .int .i64 0, .int .i64 0] HX0.out (by kernel_rfl) rfl (by simp [Value.oneCell']) ?_; have HX1 := Aside0.mk (setRow_heap _ _ _ #[.int .i64 rx.f0, .int .i64 rx.f1, .int .i64 rx.f2.f0, .int .i64 rx.f2.f1, .int .i64 rx.f3, .int .i64 rx.f4] _ _ HX0.out); have hb4 := below_setRow HBX.out HGX.out #[.int .i64 rx.f0, .int .i64 rx.f1, .int .i64 rx.f2.f0, .int .i64 rx.f2.f1, .int .i64 rx.f3, .int .i64 rx.f4]; have HI1 := Aside0.mk (HI.out.below hb4); clear hb4; generalize wa.setRow gx #[.int .i64 rx.f0, .int .i64 rx.f1, .int .i64 rx.f2.f0, .int .i64 rx.f2.f1, .int .i64 rx.f3, .int .i64 rx.f4] = w1 at HX1 HI1 ⊢; have y0 := (blk_cell HX1.out 0).trans rfl; have y1 := (blk_cell HX1.out 1).trans rfl; have y2 := (blk_cell HX1.out 2).trans rfl; have y3 := (blk_cell HX1.out 3).trans rfl; have y4 := (blk_cell HX1.out 4).trans rfl;  skip) | (go_at_call 45; (with_reducible refine (wrL w.heap.size gw lj 5 _ ⟨Glob.base HG.out H0.out HI1.out.bel⟩ H0.out HI1.out.bel.size HI1.out.wtr HP0.out (by decide)).mono ?_); rintro e w2 hp; have HI2 := Aside0.mk (SvI.step HI1.out hp); rw [HM1.out] at HI2; have HX2 := Aside0.mk (hp.2.2.2.keep _ _ _ HX1.out (by decide) (by decide)); obtain ⟨rfl, _⟩ := hp; clear y0 y1 y2 y3 y4; have y0 := (blk_cell HX2.out 0).trans rfl; have y1 := (blk_cell HX2.out 1).trans rfl; have y2 := (blk_cell HX2.out 2).trans rfl; have y3 := (blk_cell HX2.out 3).trans rfl; have y4 := (blk_cell HX2.out 4).trans rfl;  skip) | (go_at_call 46; (with_reducible refine (wrU w.heap.size gw m1 (uw rx.f0) _ ⟨Glob.base HG.out H0.out HI2.out.bel⟩ HI2.out.bel.size HI2.out.wtr HP1.out (uw_range _)).mono ?_); rintro e w3 hp; have HI3 := Aside0.mk (SvI.step HI2.out hp); rw [HM2.out] at HI3; have HX3 := Aside0.mk (hp.2.2.2.keep _ _ _ HX2.out (by decide) (by decide)); obtain ⟨rfl, _⟩ := hp; clear y0 y1 y2 y3 y4; have y0 := (blk_cell HX3.out 0).trans rfl; have y1 := (blk_cell HX3.out 1).trans rfl; have y2 := (blk_cell HX3.out 2).trans rfl; have y3 := (blk_cell HX3.out 3).trans rfl; have y4 := (blk_cell HX3.out 4).trans rfl;  skip) | (go_at_call 46; (with_reducible refine (wrU w.heap.size gw m2 (uw rx.f1) _ ⟨Glob.base HG.out H0.out HI3.out.bel⟩ HI3.out.bel.size HI3.out.wtr HP2.out (uw_range _)).mono ?_); rintro e w4 hp; have HI4 := Aside0.mk (SvI.step HI3.out hp); rw [HM3.out] at HI4; have HX4 := Aside0.mk (hp.2.2.2.keep _ _ _ HX3.out (by decide) (by decide)); obtain ⟨rfl, _⟩ := hp; clear y0 y1 y2 y3 y4; have y0 := (blk_cell HX4.out 0).trans rfl; have y1 := (blk_cell HX4.out 1).trans rfl; have y2 := (blk_cell HX4.out 2).trans rfl; have y3 := (blk_cell HX4.out 3).trans rfl; have y4 := (blk_cell HX4.out 4).trans rfl;  skip) | (go_at_call 46; (with_reducible refine (wrU w.heap.size gw m3 (uw rx.f2.f0) _ ⟨Glob.base HG.out H0.out HI4.out.bel⟩ HI4.out.bel.size HI4.out.wtr HP3.out (uw_range _)).mono ?_); rintro e w5 hp; have HI5 := Aside0.mk (SvI.step HI4.out hp); rw [HM4.out] at HI5; have HX5 := Aside0.mk (hp.2.2.2.keep _ _ _ HX4.out (by decide) (by decide)); obtain ⟨rfl, _⟩ := hp; clear y0 y1 y2 y3 y4; have y0 := (blk_cell HX5.out 0).trans rfl; have y1 := (blk_cell HX5.out 1).trans rfl; have y2 := (blk_cell HX5.out 2).trans rfl; have y3 := (blk_cell HX5.out 3).trans rfl; have y4 := (blk_cell HX5.out 4).trans rfl;  skip) | (go_at_call 47; (with_reducible refine (wrS w.heap.size gw m4 rx.f2.f1 _ ⟨Glob.base HG.out H0.out HI5.out.bel⟩ HI5.out.bel.size HI5.out.wtr HP4.out HOX.out).mono ?_); rintro e w6 hp; have HI6 := Aside0.mk (SvI.step HI5.out hp); rw [HM5.out] at HI6; have HX6 := Aside0.mk (hp.2.2.2.keep _ _ _ HX5.out (by decide) (by decide)); obtain ⟨rfl, _⟩ := hp; clear y0 y1 y2 y3 y4; have y0 := (blk_cell HX6.out 0).trans rfl; have y1 := (blk_cell HX6.out 1).trans rfl; have y2 := (blk_cell HX6.out 2).trans rfl; have y3 := (blk_cell HX6.out 3).trans rfl; have y4 := (blk_cell HX6.out 4).trans rfl;  skip) | (go_at_call 46; (with_reducible refine (wrU w.heap.size gw m5 (uw rx.f3) _ ⟨Glob.base HG.out H0.out HI6.out.bel⟩ HI6.out.bel.size HI6.out.wtr HP5.out (uw_range _)).mono ?_); rintro e w7 hp; have HI7 := Aside0.mk (SvI.step HI6.out hp); rw [HM6.out] at HI7; have HX7 := Aside0.mk (hp.2.2.2.keep _ _ _ HX6.out (by decide) (by decide)); obtain ⟨rfl, _⟩ := hp; clear y0 y1 y2 y3 y4; have y0 := (blk_cell HX7.out 0).trans rfl; have y1 := (blk_cell HX7.out 1).trans rfl; have y2 := (blk_cell HX7.out 2).trans rfl; have y3 := (blk_cell HX7.out 3).trans rfl; have y4 := (blk_cell HX7.out 4).trans rfl;  skip))
   have hwj : wrap64 ((j : Int) + 1) = ((j + 1 : Nat) : Int) := by rw [wrap_id (by omega) (by have := HXN.out; have := HLT.out; omega)]; omega
   refine ⟨⟨j + 1, by rw [hwj], HLT.out, by rw [← HEND.out]; exact HI7⟩, ?_⟩
   have := HLT.out
   rw [intOf_int, intOf_int, hwj, Int.toNat_natCast, Int.toNat_natCast]
   omega
  ·as_aux_lemma =>
   have hje : j = xs.length := by omega
   have hl1 : decide ((j : Int) < (xs.length : Int)) = false := decide_eq_false (by omega)
   have hl2 : decide (j < xs.length) = false := decide_eq_false hlt
   have hl3 : ((j : Int) < (xs.length : Int)) = False := eq_false (by omega)
   have hl4 : (j < xs.length) = False := eq_false hlt
   have HBODY := Aside0.mk (show lj = bodyB L.total L.now L.recs by
    rw [← HJE.out, hje, List.take_of_length_le (Nat.le_refl _), ← HB4.out, ← HB3.out, ← HB2.out, ← HB1.out, HXS.out]
    unfold bodyB
    simp only [List.nil_append, List.append_assoc])
   have HZ0 := Aside0.mk (show 0 < wr.heap.size from Nat.lt_of_lt_of_le H0.out HI.out.bel.size)
   obtain ⟨S1, HS1⟩ : ∃ s, Aside0 (strOfNums lj = s) := ⟨_, ⟨rfl⟩⟩
   have HSZ := Aside0.mk (show S1.size ≤ 64000 by rw [← HS1.out, strOfNums_size]; exact HLJ.out)
   obtain ⟨D, HD⟩ : ∃ d, Aside0 (digB S1 = d) := ⟨_, ⟨rfl⟩⟩
   have HDF := Aside0.mk (show codec_Digest.f S1 = some D by rw [← HD.out]; unfold codec_Digest.f digB; rw [if_pos (by have := HSZ.out; omega)])
   have HDZ := Aside0.mk (show D.size = 16 by rw [← HD.out]; exact digB_size S1)
   obtain ⟨n1, HN1'⟩ : ∃ l, Aside0 (([] : List Int) ++ ([64] ++ uB 2) = l) := ⟨_, ⟨rfl⟩⟩
   obtain ⟨n2, HN2'⟩ : ∃ l, Aside0 (n1 ++ ([48] ++ uB (D.size : Int) ++ bytesOf D) = l) := ⟨_, ⟨rfl⟩⟩
   obtain ⟨n3, HN3'⟩ : ∃ l, Aside0 (n2 ++ ([48] ++ uB (S1.size : Int) ++ bytesOf S1) = l) := ⟨_, ⟨rfl⟩⟩
   have q0 := uB_len 2
   have q1 := uB_len (D.size : Int)
   have q2 := bytesOf_length D
   have HP1 := Aside0.mk (show n1.length ≤ 100000000 by rw [← HN1'.out]; simp only [List.length_append, List.length_cons, List.length_nil]; omega)
   have HP2 := Aside0.mk (show n2.length ≤ 100000000 by rw [← HN2'.out, ← HN1'.out]; have := HDZ.out; simp only [List.length_append, List.length_cons, List.length_nil]; omega)
   have HFIN := Aside0.mk (show strOfNums n3 = strOfNums (saveB L.total L.now L.recs) by
    rw [← HN3'.out, ← HN2'.out, ← HN1'.out, ← HD.out, ← HS1.out, HBODY.out]
    unfold saveB textB
    rw [List.nil_append])
   clear q0 q1 q2 hlt hj hC hje
   go_wp2_with (first | ((with_reducible refine gate_dst (N := 68) rfl ?_); refine box_event ?hg (N := 68) ?hd (cs := #[.slice none 0 0]) (t := 90) ?hr ?_; (case hd => rfl); (case hg => rfl); (case hr => first | (go_simp; done) | (go_simp; rfl)); intro go hgz w0 hbox hb; have HO0 := Aside0.mk (show SvO wr go [] w0 from ⟨⟨_, hbox, by rw [hgz]; exact Nat.le_refl _, Kd.R_nil _ _ _ _ _⟩, hb⟩); clear hb hbox hgz) | (go_at_call 45; (with_reducible refine (wrL wr.heap.size go [] 2 _ ⟨Glob.base HG.out H0.out (below_step HI.out.bel HO0.out.bel)⟩ HZ0.out HO0.out.bel.size HO0.out.wtr (by simp) (by decide)).mono ?_); rintro e w1 hp; have HO1 := Aside0.mk (SvO.step HO0.out hp); rw [HN1'.out] at HO1; obtain ⟨rfl, _⟩ := hp) | (go_at_call 49; (with_reducible refine (wr_data wr.heap.size go n3 _ HO3.out.wtr).mono ?_); rintro e wd ⟨rfl, rfl⟩) | (first | (go_at_call 49; (with_reducible refine (wr_data w.heap.size gw lj _ (HI.out.wtr.below HO2.out.bel)).mono ?_); rintro e wd ⟨rfl, rfl⟩; rw [HS1.out]) | (go_at_call 49; (with_reducible refine (wr_data w.heap.size gw lj _ (HI.out.wtr.below HO1.out.bel)).mono ?_); rintro e wd ⟨rfl, rfl⟩; rw [HS1.out])) | (go_at_call 35; (with_reducible refine (codec_Digest.calls S1 D _ (Glob.base HG.out H0.out (below_step HI.out.bel HO1.out.bel)) HDF.out).mono ?_); rintro e w1b ⟨rfl, hb⟩; have HO1b := Aside0.mk (HO1.out.below hb); clear hb) | (go_at_call 48; (with_reducible refine (wrT wr.heap.size go n2 S1 _ ⟨Glob.base HG.out H0.out (below_step HI.out.bel HO2.out.bel)⟩ HZ0.out HO2.out.bel.size HO2.out.wtr HP2.out (by have := HSZ.out; omega)).mono ?_); rintro e w3 hp; have HO3 := Aside0.mk (SvO.step HO2.out hp); rw [HN3'.out] at HO3; obtain ⟨rfl, _⟩ := hp) | (go_at_call 48; (with_reducible refine (wrT wr.heap.size go n1 D _ ⟨Glob.base HG.out H0.out (below_step HI.out.bel HO1b.out.bel)⟩ HZ0.out HO1b.out.bel.size HO1b.out.wtr HP1.out (by have := HDZ.out; omega)).mono ?_); rintro e w2 hp; have HO2 := Aside0.mk (SvO.step HO1b.out hp); rw [HN2'.out] at HO2; obtain ⟨rfl, _⟩ := hp))
   go_ret
   rw [← HFIN.out]
   exact ⟨rfl, below_step HI.out.bel HO3.out.bel⟩
end Go.Proofs.YtbccjcdmpiolpaaDoor.T
end
section
namespace Go.Proofs.YtbccjcdmpiolpaaDoor.Pure
open Go.RowKit Go.Proofs.YtbccjcdmpiolpaaDoor.T Go.Proofs.YtbccjcdmpiolpaaDoorW.PrintWords Go.Proofs.YtbccjcdmpiolpaaDoorW.PrintLast Go.Proofs.YtbccjcdmpiolpaaDoorW.PrintMore
set_option linter.unusedVariables false
set_option linter.unusedSimpArgs false
theorem refRU_loop (s : ByteArray) (p : Int) (n : Nat) (hp : 0 ≤ p) (h8 : n ≤ 8) (hn : p + 1 + (n : Int) ≤ (s.size : Int)) (hz : s.size ≤ 140737488355327) :
  ∀ (d i : Nat), i + d = n → ∀ k, plenumref02_ReadUnsigned.l0 (k + d + 9) p (s.extract (p + 1).toNat (p + 1 + (n : Int)).toNat) true (beN s (p + 1) i) i =
   some (opt3 (if nb (beN s (p + 1) n) = (n : Int) then some (beN s (p + 1) n, p + 1 + (n : Int)) else none)) := by
 have hs : ((s.extract (p + 1).toNat (p + 1 + (n : Int)).toNat).size : Int) = (n : Int) := by rw [ext_size _ _ _ (by omega) (by omega)]; omega
 intro d
 induction d with
 | zero =>
  intro i hi k
  obtain rfl : i = n := by omega
  have hr := beN_range s (p + 1) i
  have hlt : beN s (p + 1) i < 256 ^ 8 := beN_lt h8
  simp only [Int.reducePow] at hlt
  rw [show k + 0 + 9 = (k + 8) + 1 by omega]
  rw [plenumref02_ReadUnsigned.l0, hs, if_neg (by omega), if_pos rfl, refU_eq _ _ hr.1 (by omega)]
  rw [Option.bind_some]
  have hnb := nb_range (beN s (p + 1) i)
  have hsz : ((strOfNums ((16 + nb (beN s (p + 1) i)) :: beL (beN s (p + 1) i) (nb (beN s (p + 1) i)).toNat)).size : Int) = 1 + nb (beN s (p + 1) i) := by
   rw [strOfNums_size, List.length_cons, beL_length]; omega
  generalize strOfNums ((16 + nb (beN s (p + 1) i)) :: beL (beN s (p + 1) i) (nb (beN s (p + 1) i)).toNat) = enc at hsz ⊢
  have w1 : wrap64 ((i : Int) + 1) = (i : Int) + 1 := w64 (by omega) (by omega)
  have w2 : wrap64 (wrap64 (p + 1) + (i : Int)) = p + 1 + (i : Int) := by rw [w64 (n := p + 1) (by omega) (by omega), w64 (by omega) (by omega)]
  by_cases c : nb (beN s (p + 1) i) = (i : Int)
  ·rw [if_pos c, if_pos (by omega), w2, opt3]
  ·rw [if_neg c, if_neg (by omega), opt3]
 | succ d ih =>
  intro i hi k
  have hr := beN_range s (p + 1) i
  have hlt : beN s (p + 1) i < 256 ^ 7 := beN_lt (by omega)
  simp only [Int.reducePow] at hlt
  have hb := bt_range s (p + 1 + (i : Int))
  have hbt : bt (s.extract (p + 1).toNat (p + 1 + (n : Int)).toNat) (i : Int) = bt s (p + 1 + (i : Int)) := by
   rw [bt_ext _ _ _ _ (by omega) (by omega) (by omega) (by omega)]
   congr 1
   omega
  rw [show k + (d + 1) + 9 = (k + d + 9) + 1 by omega]
  rw [plenumref02_ReadUnsigned.l0, hs, if_pos (by omega), if_pos (by omega), hbt, w64 (n := (i : Int) + 1) (by omega) (by omega), u64w, u64w,
   Int.emod_eq_of_lt (b := 18446744073709551616) (a := beN s (p + 1) i * 256) (by omega) (by omega), Int.emod_eq_of_lt (b := 18446744073709551616) (a := bt s (p + 1 + (i : Int))) (by omega) (by omega), or_u64 _ _ hr.1 (by omega) hb.1 (by omega)]
  have := ih (i + 1) (by omega) k
  rw [show ((i + 1 : Nat) : Int) = (i : Int) + 1 by omega, show beN s (p + 1) (i + 1) = beN s (p + 1) i * 256 + bt s (p + 1 + (i : Int)) from rfl] at this
  exact this
theorem refRU_eq (k : Nat) (s : ByteArray) (p : Int) (hp : 0 ≤ p) (hz : s.size ≤ 140737488355327) : plenumref02_ReadUnsigned.f (k + 18) s p = some (opt3 (uS s p)) := by
 unfold plenumref02_ReadUnsigned.f uS
 rw [show k + 18 = (k + 16) + 2 from rfl, refNumber_eq _ s p 16 (Or.inl rfl) hp hz]
 simp only [Option.bind_some]
 by_cases c : numS s p 16 = true
 ·rw [if_pos c]
  have h := (numS_16 hp).1 c
  have hc := cnt_of (Or.inl h.1)
  have := refRU_loop s p (cnt s p) hp (by omega) h.2 hz (cnt s p) 0 (by omega) (k + 9 - cnt s p)
  rw [show k + 9 - cnt s p + cnt s p + 9 = k + 16 + 2 by omega] at this
  refine this.trans ?_
  show some (opt3 (if nb (val s p) = (cnt s p : Int) then some (val s p, p + 1 + (cnt s p : Int)) else none)) = _
  by_cases c2 : nb (val s p) = (cnt s p : Int)
  ·rw [if_pos c2, if_pos ⟨h.1, h.2, c2⟩]
  ·rw [if_neg c2, if_neg (fun h' => c2 h'.2.2)]
 ·rw [if_neg c, if_neg (fun h' => c ((numS_16 hp).2 ⟨h'.1, h'.2.1⟩))]
  show plenumref02_ReadUnsigned.l0 ((k + 17) + 1) p (⟨#[]⟩ : ByteArray) false 0 0 = _
  rw [plenumref02_ReadUnsigned.l0]
  rfl
end Go.Proofs.YtbccjcdmpiolpaaDoor.Pure
end
section
namespace Go.Proofs.YtbccjcdmpiolpaaDoor.Pure
open Go.RowKit Go.Proofs.YtbccjcdmpiolpaaDoor.T Go.Proofs.YtbccjcdmpiolpaaDoorW.PrintWords Go.Proofs.YtbccjcdmpiolpaaDoorW.PrintLast Go.Proofs.YtbccjcdmpiolpaaDoorW.PrintMore
set_option linter.unusedVariables false
set_option linter.unusedSimpArgs false
def sx (s : ByteArray) (q : Int) : Nat → Int
 | 0 => if bt s q ≥ 128 then -1 else 0
 | i + 1 => sgn (i + 1) (beN s q (i + 1))
theorem sgn_or (i : Nat) (V : Int) : (sgn (i + 1) V = V ∧ V < 128 * 256 ^ i) ∨ (sgn (i + 1) V = V - 256 ^ i * 256 ∧ 128 * 256 ^ i ≤ V) := by
 have e : sgn (i + 1) V = if V < 128 * 256 ^ i then V else V - 256 ^ i * 256 := by unfold sgn; rw [Int.pow_succ]; rfl
 rw [e]
 by_cases c : V < 128 * 256 ^ i
 ·rw [if_pos c]; exact Or.inl ⟨rfl, c⟩
 ·rw [if_neg c]; exact Or.inr ⟨rfl, by omega⟩
theorem beN_succ (s : ByteArray) (q : Int) (n : Nat) : beN s q (n + 1) = beN s q n * 256 + bt s (q + (n : Int)) := rfl
theorem sx_step (s : ByteArray) (q : Int) (i : Nat) : sx s q (i + 1) = sx s q i * 256 + bt s (q + (i : Int)) := by
 have hb := bt_range s (q + (i : Int))
 cases i with
 | zero =>
  have e : q + ((0 : Nat) : Int) = q := by omega
  rw [e] at hb ⊢
  have h1 : beN s q 1 = bt s q := by rw [beN_succ, e]; show (0 : Int) * 256 + _ = _; omega
  have h2 := sgn_or 0 (beN s q 1)
  rw [h1] at h2
  have h3 : sx s q (0 + 1) = sgn (0 + 1) (bt s q) := by rw [← h1]; rfl
  have h4 : sx s q 0 = if bt s q ≥ 128 then -1 else 0 := rfl
  rw [h3, h4]
  simp only [Int.reducePow] at h2
  split <;> omega
 | succ i =>
  have h1 := beN_succ s q (i + 1)
  have h2 := sgn_or (i + 1) (beN s q (i + 1 + 1))
  have h3 := sgn_or i (beN s q (i + 1))
  have h4 : sx s q (i + 1 + 1) = sgn (i + 1 + 1) (beN s q (i + 1 + 1)) := rfl
  have h5 : sx s q (i + 1) = sgn (i + 1) (beN s q (i + 1)) := rfl
  rw [h4, h5]
  rw [Int.pow_succ (256 : Int) i] at h2
  generalize (256 : Int) ^ i = P at *
  omega
theorem sx_range (s : ByteArray) (q : Int) (i : Nat) (h : i ≤ 7) : -9223372036854775808 ≤ sx s q i * 256 ∧ sx s q i * 256 ≤ 9223372036854775807 := by
 cases i with
 | zero => simp only [sx]; split <;> omega
 | succ i =>
  have hr := beN_range s q (i + 1)
  simp only [sx, sgn]
  obtain rfl | rfl | rfl | rfl | rfl | rfl | rfl : i = 0 ∨ i = 1 ∨ i = 2 ∨ i = 3 ∨ i = 4 ∨ i = 5 ∨ i = 6 := by omega
  all_goals simp only [Int.reducePow, Nat.reduceSub, Nat.reduceAdd] at hr ⊢
  all_goals split <;> omega
theorem refRS_loop (s : ByteArray) (p : Int) (n : Nat) (hp : 0 ≤ p) (h1 : 1 ≤ n) (h8 : n ≤ 8) (hn : p + 1 + (n : Int) ≤ (s.size : Int)) (hz : s.size ≤ 140737488355327) :
  ∀ (d i : Nat), i + d = n → ∀ k, plenumref02_ReadSigned.l0 (k + d + 9) p (s.extract (p + 1).toNat (p + 1 + (n : Int)).toNat) true (sx s (p + 1) i) i =
   some (opt3 (if ss (sx s (p + 1) n) = (n : Int) then some (sx s (p + 1) n, p + 1 + (n : Int)) else none)) := by
 have hs : ((s.extract (p + 1).toNat (p + 1 + (n : Int)).toNat).size : Int) = (n : Int) := by rw [ext_size _ _ _ (by omega) (by omega)]; omega
 intro d
 induction d with
 | zero =>
  intro i hi k
  obtain rfl : i = n := by omega
  have hr : -9223372036854775808 ≤ sx s (p + 1) i ∧ sx s (p + 1) i ≤ 9223372036854775807 := by
   obtain ⟨m, rfl⟩ : ∃ m, i = m + 1 := ⟨i - 1, by omega⟩
   exact sgn_range h1 h8 (beN_range _ _ _)
  rw [show k + 0 + 9 = (k + 8) + 1 by omega]
  rw [plenumref02_ReadSigned.l0, hs, if_neg (by omega), if_pos rfl, refS_eq _ _ hr.1 hr.2]
  rw [Option.bind_some]
  have hnb := ss_range (sx s (p + 1) i) hr.1 hr.2
  have hsz : ((strOfNums ((32 + ss (sx s (p + 1) i)) :: beL (sx s (p + 1) i) (ss (sx s (p + 1) i)).toNat)).size : Int) = 1 + ss (sx s (p + 1) i) := by
   rw [strOfNums_size, List.length_cons, beL_length]; omega
  generalize strOfNums ((32 + ss (sx s (p + 1) i)) :: beL (sx s (p + 1) i) (ss (sx s (p + 1) i)).toNat) = enc at hsz ⊢
  have w1 : wrap64 ((i : Int) + 1) = (i : Int) + 1 := w64 (by omega) (by omega)
  have w2 : wrap64 (wrap64 (p + 1) + (i : Int)) = p + 1 + (i : Int) := by rw [w64 (n := p + 1) (by omega) (by omega), w64 (by omega) (by omega)]
  by_cases c : ss (sx s (p + 1) i) = (i : Int)
  ·rw [if_pos c, if_pos (by omega), w2, opt3]
  ·rw [if_neg c, if_neg (by omega), opt3]
 | succ d ih =>
  intro i hi k
  have hr := sx_range s (p + 1) i (by omega)
  have hb := bt_range s (p + 1 + (i : Int))
  have hbt : bt (s.extract (p + 1).toNat (p + 1 + (n : Int)).toNat) (i : Int) = bt s (p + 1 + (i : Int)) := by
   rw [bt_ext _ _ _ _ (by omega) (by omega) (by omega) (by omega)]
   congr 1
   omega
  rw [show k + (d + 1) + 9 = (k + d + 9) + 1 by omega]
  rw [plenumref02_ReadSigned.l0, hs, if_pos (by omega), if_pos (by omega), hbt, w64 (n := (i : Int) + 1) (by omega) (by omega), w64 (n := bt s (p + 1 + (i : Int))) (by omega) (by omega),
   w64 (n := sx s (p + 1) i * 256) hr.1 hr.2, or_i64 _ _ hr.1 hr.2 hb.1 (by omega), ← sx_step]
  have := ih (i + 1) (by omega) k
  rw [show ((i + 1 : Nat) : Int) = (i : Int) + 1 by omega] at this
  exact this
theorem refRS_eq (k : Nat) (s : ByteArray) (p : Int) (hp : 0 ≤ p) (hz : s.size ≤ 140737488355327) : plenumref02_ReadSigned.f (k + 20) s p = some (opt3 (sS s p)) := by
 unfold plenumref02_ReadSigned.f sS
 rw [show k + 20 = (k + 18) + 2 from rfl, refNumber_eq _ s p 32 (Or.inr rfl) hp hz]
 rw [Option.bind_some]
 by_cases c : numS s p 32 = true
 ·rw [if_pos c]
  have h := (numS_32 hp).1 c
  have hc := cnt_of (Or.inr h.1)
  have hs : ((s.extract (p + 1).toNat (p + 1 + (cnt s p : Int)).toNat).size : Int) = (cnt s p : Int) := by rw [ext_size _ _ _ (by omega) (by omega)]; omega
  have hb0 : bt (s.extract (p + 1).toNat (p + 1 + (cnt s p : Int)).toNat) 0 = bt s (p + 1) := by
   rw [bt_ext _ _ _ _ (by omega) (by omega) (by omega) (by omega)]
   congr 1
   omega
  have := refRS_loop s p (cnt s p) hp hc.1 hc.2 h.2 hz (cnt s p) 0 (by omega) (k + 9 - cnt s p)
  rw [show k + 9 - cnt s p + cnt s p + 9 = k + 18 by omega] at this
  have e : sx s (p + 1) (cnt s p) = sgn (cnt s p) (val s p) := by
   obtain ⟨m, hm⟩ : ∃ m, cnt s p = m + 1 := ⟨cnt s p - 1, by omega⟩
   unfold val
   rw [hm]
   rfl
  rw [e] at this
  rw [if_pos rfl, hs, if_pos (by omega), hb0]
  rw [show k + 18 + 2 = (k + 18 + 1) + 1 from rfl, plenumref02_ReadSigned.j0]
  have hfin : plenumref02_ReadSigned.l0 (k + 18) p (s.extract (p + 1).toNat (p + 1 + (cnt s p : Int)).toNat) true (if bt s (p + 1) ≥ 128 then -1 else 0) 0 =
    some (opt3 (if kindS s p = 4 ∧ p + 1 + (cnt s p : Int) ≤ (s.size : Int) ∧ ss (sgn (cnt s p) (val s p)) = (cnt s p : Int) then some (sgn (cnt s p) (val s p), p + 1 + (cnt s p : Int)) else none)) := by
   refine this.trans ?_
   by_cases c2 : ss (sgn (cnt s p) (val s p)) = (cnt s p : Int)
   ·rw [if_pos c2, if_pos ⟨h.1, h.2, c2⟩]
   ·rw [if_neg c2, if_neg (fun h' => c2 h'.2.2)]
  by_cases c3 : bt s (p + 1) ≥ 128
  ·rw [decide_eq_true c3, if_pos rfl, plenumref02_ReadSigned.j1]
   rw [if_pos c3] at hfin
   exact hfin
  ·rw [decide_eq_false c3, if_neg (by decide), plenumref02_ReadSigned.j1]
   rw [if_neg c3] at hfin
   exact hfin
 ·rw [if_neg c, if_neg (c := (((⟨#[]⟩ : ByteArray), false) : ByteArray × Bool).2 = true) (by decide), if_neg (fun h' => c ((numS_32 hp).2 ⟨h'.1, h'.2.1⟩))]
  rw [show k + 18 + 2 = (k + 17 + 1 + 1) + 1 from rfl, plenumref02_ReadSigned.j0, if_neg (by decide), plenumref02_ReadSigned.j1, plenumref02_ReadSigned.l0, if_neg (by decide), if_neg (by decide), opt3]
theorem rawS3 (s : ByteArray) (p : Int) : (∀ v e, uS s p = some (v, e) → rawS s p 3 = (v, e, true)) ∧ (uS s p = none → (rawS s p 3).2.2 = false) := by
 unfold uS rawS
 refine ⟨fun v e h => ?_, fun h => ?_⟩
 ·split at h
  ·rename_i c
   obtain ⟨rfl, rfl⟩ := Prod.mk.inj (Option.some.inj h)
   rw [if_pos c.1, if_neg (by omega), if_pos rfl, c.2.2]
   simp
  ·cases h
 ·split at h
  ·cases h
  ·rename_i c
   by_cases c1 : kindS s p = 3
   ·rw [if_pos c1]
    by_cases c2 : p + 1 + (cnt s p : Int) > (s.size : Int)
    ·rw [if_pos c2]
    ·rw [if_neg c2, if_pos rfl]
     show (nb (val s p) == (cnt s p : Int)) = false
     rw [beq_eq_false_iff_ne]
     exact fun h' => c ⟨c1, by omega, h'⟩
   ·rw [if_neg c1]
theorem rawS4 (s : ByteArray) (p : Int) : (∀ v e, sS s p = some (v, e) → rawS s p 4 = (IntKind.u64.wrap v, e, true)) ∧ (sS s p = none → (rawS s p 4).2.2 = false) := by
 unfold sS rawS
 refine ⟨fun v e h => ?_, fun h => ?_⟩
 ·split at h
  ·rename_i c
   obtain ⟨rfl, rfl⟩ := Prod.mk.inj (Option.some.inj h)
   rw [if_pos c.1, if_neg (by omega), if_neg (by decide), c.2.2]
   simp
  ·cases h
 ·split at h
  ·cases h
  ·rename_i c
   by_cases c1 : kindS s p = 4
   ·rw [if_pos c1]
    by_cases c2 : p + 1 + (cnt s p : Int) > (s.size : Int)
    ·rw [if_pos c2]
    ·rw [if_neg c2, if_neg (by decide)]
     show (ss (sgn (cnt s p) (val s p)) == (cnt s p : Int)) = false
     rw [beq_eq_false_iff_ne]
     exact fun h' => c ⟨c1, by omega, h'⟩
   ·rw [if_neg c1]
theorem uS_some {s : ByteArray} {p v e : Int} (h : uS s p = some (v, e)) : 0 ≤ p ∧ p + 1 < e ∧ e ≤ (s.size : Int) ∧ 0 ≤ v ∧ v < 18446744073709551616 := by
 unfold uS at h
 split at h
 ·rename_i c
  obtain ⟨rfl, rfl⟩ := Prod.mk.inj (Option.some.inj h)
  have hc := cnt_of (Or.inl c.1)
  have hk := kindS_in (s := s) (p := p) (by omega)
  have hr := beN_range s (p + 1) (cnt s p)
  have hlt : beN s (p + 1) (cnt s p) < 256 ^ 8 := beN_lt hc.2
  simp only [Int.reducePow] at hlt
  unfold val
  omega
 ·cases h
theorem sS_some {s : ByteArray} {p v e : Int} (h : sS s p = some (v, e)) : 0 ≤ p ∧ p + 1 < e ∧ e ≤ (s.size : Int) ∧ -9223372036854775808 ≤ v ∧ v ≤ 9223372036854775807 := by
 unfold sS at h
 split at h
 ·rename_i c
  obtain ⟨rfl, rfl⟩ := Prod.mk.inj (Option.some.inj h)
  have hc := cnt_of (Or.inr c.1)
  have hk := kindS_in (s := s) (p := p) (by omega)
  have hr := sgn_range hc.1 hc.2 (beN_range s (p + 1) (cnt s p))
  unfold val
  omega
 ·cases h
def tS (s : ByteArray) (p : Int) : Option (ByteArray × Int) :=
 if kindS s p = 5 then match uS s (p + 1) with
  | some (v, e) => if v > 65535 then none else if v > (s.size : Int) - e then none else some (s.extract e.toNat (e + v).toNat, e + v)
  | none => none
 else none
def lS (s : ByteArray) (p : Int) : Option (Int × Int) :=
 if kindS s p = 6 then match uS s (p + 1) with
  | some (v, e) => if v > 65535 then none else some (v, e)
  | none => none
 else none
def optT (o : Option (ByteArray × Int)) : ByteArray × Int × Bool := match o with | some (v, e) => (v, e, true) | none => ((⟨#[]⟩ : ByteArray), 0, false)
theorem text_eq (k : Nat) (s : ByteArray) (p : Int) (hz : s.size ≤ 140737488355327) : codec_text.f (k + 12) s p = some (optT (tS s p)) := by
 unfold codec_text.f tS
 rw [show k + 12 = (k + 9) + 3 from rfl, kind_eq, Option.bind_some]
 by_cases c : kindS s p = 5
 ·have hk := kindS_in (s := s) (p := p) (by omega)
  rw [if_pos c, if_pos c, show k + 9 + 3 = k + 12 from rfl, w64 (n := p + 1) (by omega) (by omega), raw_eq _ _ _ _ (Or.inl rfl) hz, Option.bind_some]
  cases hu : uS s (p + 1) with
  | none =>
   rw [(rawS3 s (p + 1)).2 hu, if_neg (by decide)]
   rfl
  | some ve =>
   obtain ⟨v, e⟩ := ve
   have hb := uS_some hu
   show _ = some (optT (if v > 65535 then none else if v > (s.size : Int) - e then none else some (s.extract e.toNat (e + v).toNat, e + v)))
   rw [(rawS3 s (p + 1)).1 v e hu, if_pos (show ((v, e, true) : Int × Int × Bool).2.2 = true from rfl), show ((v, e, true) : Int × Int × Bool).1 = v from rfl, show ((v, e, true) : Int × Int × Bool).2.1 = e from rfl]
   by_cases c1 : v > 65535
   ·rw [if_pos c1, if_pos c1]; rfl
   ·rw [if_neg c1, if_neg c1, w64 (n := v) (by omega) (by omega), w64 (n := (s.size : Int) - e) (by omega) (by omega), w64 (n := e + v) (by omega) (by omega)]
    by_cases c2 : v > (s.size : Int) - e
    ·rw [if_pos c2, if_pos c2]; rfl
    ·rw [if_neg c2, if_neg c2, if_pos (by omega), if_pos (by omega), if_pos (by omega)]; rfl
 ·rw [if_neg c, if_neg c]; rfl
theorem list_eq (k : Nat) (s : ByteArray) (p : Int) (hz : s.size ≤ 140737488355327) : codec_list.f (k + 12) s p = some (opt3 (lS s p)) := by
 unfold codec_list.f lS
 rw [show k + 12 = (k + 9) + 3 from rfl, kind_eq, Option.bind_some]
 by_cases c : kindS s p = 6
 ·have hk := kindS_in (s := s) (p := p) (by omega)
  rw [if_pos c, if_pos c, show k + 9 + 3 = k + 12 from rfl, w64 (n := p + 1) (by omega) (by omega), raw_eq _ _ _ _ (Or.inl rfl) hz, Option.bind_some]
  cases hu : uS s (p + 1) with
  | none =>
   rw [(rawS3 s (p + 1)).2 hu, if_neg (by decide)]
   rfl
  | some ve =>
   obtain ⟨v, e⟩ := ve
   have hb := uS_some hu
   show _ = some (opt3 (if v > 65535 then none else some (v, e)))
   rw [(rawS3 s (p + 1)).1 v e hu, if_pos (show ((v, e, true) : Int × Int × Bool).2.2 = true from rfl), show ((v, e, true) : Int × Int × Bool).1 = v from rfl, show ((v, e, true) : Int × Int × Bool).2.1 = e from rfl]
   by_cases c1 : v > 65535
   ·rw [if_pos c1, if_pos c1]; rfl
   ·rw [if_neg c1, if_neg c1, w64 (n := v) (by omega) (by omega)]; rfl
 ·rw [if_neg c, if_neg c]; rfl
theorem kd5 {b : Int} : kd b = 5 ↔ b = 48 := by unfold kd; omega
theorem kd6 {b : Int} : kd b = 6 ↔ b = 64 := by unfold kd; omega
theorem refRT_eq (k : Nat) (s : ByteArray) (p : Int) (hp : 0 ≤ p) (hz : s.size ≤ 140737488355327) : plenumref02_ReadText.f (k + 19) s p = some (optT (tS s p)) := by
 unfold plenumref02_ReadText.f tS
 rw [show k + 19 = (k + 18) + 1 from rfl, plenumref02_ReadText.j0, plenumref02_ReadText.j0]
 by_cases c0 : p ≥ (s.size : Int)
 ·rw [if_pos c0, if_pos rfl, if_neg (by unfold kindS; rw [if_pos (Or.inr c0)]; decide)]; rfl
 ·have hk : kindS s p = kd (bt s p) := by unfold kindS; rw [if_neg (by omega)]
  rw [if_neg c0, if_pos hp, if_pos (by omega), hk]
  by_cases c : bt s p = 48
  ·rw [if_neg (by simp [c]), if_pos (kd5.2 c), w64 (n := p + 1) (by omega) (by omega), refRU_eq _ _ _ (by omega) hz, Option.bind_some]
   cases hu : uS s (p + 1) with
   | none => rfl
   | some ve =>
    obtain ⟨v, e⟩ := ve
    have hb := uS_some hu
    show _ = some (optT (if v > 65535 then none else if v > (s.size : Int) - e then none else some (s.extract e.toNat (e + v).toNat, e + v)))
    rw [show opt3 (some (v, e)) = (v, e, true) from rfl, if_pos (show ((v, e, true) : Int × Int × Bool).2.2 = true from rfl), show ((v, e, true) : Int × Int × Bool).1 = v from rfl, show ((v, e, true) : Int × Int × Bool).2.1 = e from rfl]
    by_cases c1 : v > 65535
    ·rw [if_pos c1, if_pos c1]; rfl
    ·rw [if_neg c1, if_neg c1, w64 (n := v) (by omega) (by omega), w64 (n := (s.size : Int) - e) (by omega) (by omega), w64 (n := e + v) (by omega) (by omega)]
     by_cases c2 : v > (s.size : Int) - e
     ·rw [if_pos c2, if_pos c2]; rfl
     ·rw [if_neg c2, if_neg c2, if_pos (by omega), if_pos (by omega), if_pos (by omega)]; rfl
  ·rw [if_pos (by simp [c]), if_neg (fun h => c (kd5.1 h))]; rfl
theorem refRH_eq (k : Nat) (s : ByteArray) (p : Int) (hp : 0 ≤ p) (hz : s.size ≤ 140737488355327) : plenumref02_ReadHead.f (k + 19) s p = some (opt3 (lS s p)) := by
 unfold plenumref02_ReadHead.f lS
 rw [show k + 19 = (k + 18) + 1 from rfl, plenumref02_ReadHead.j0, plenumref02_ReadHead.j0]
 by_cases c0 : p ≥ (s.size : Int)
 ·rw [if_pos c0, if_pos rfl, if_neg (by unfold kindS; rw [if_pos (Or.inr c0)]; decide)]; rfl
 ·have hk : kindS s p = kd (bt s p) := by unfold kindS; rw [if_neg (by omega)]
  rw [if_neg c0, if_pos hp, if_pos (by omega), hk]
  by_cases c : bt s p = 64
  ·rw [if_neg (by simp [c]), if_pos (kd6.2 c), w64 (n := p + 1) (by omega) (by omega), refRU_eq _ _ _ (by omega) hz, Option.bind_some]
   cases hu : uS s (p + 1) with
   | none => rfl
   | some ve =>
    obtain ⟨v, e⟩ := ve
    have hb := uS_some hu
    show _ = some (opt3 (if v > 65535 then none else some (v, e)))
    rw [show opt3 (some (v, e)) = (v, e, true) from rfl, if_pos (show ((v, e, true) : Int × Int × Bool).2.2 = true from rfl), show ((v, e, true) : Int × Int × Bool).1 = v from rfl, show ((v, e, true) : Int × Int × Bool).2.1 = e from rfl]
    by_cases c1 : v > 65535
    ·rw [if_pos c1, if_pos c1]; rfl
    ·rw [if_neg c1, if_neg c1, w64 (n := v) (by omega) (by omega)]; rfl
  ·rw [if_pos (by simp [c]), if_neg (fun h => c (kd6.1 h))]; rfl
end Go.Proofs.YtbccjcdmpiolpaaDoor.Pure
end
section
namespace Go.Proofs.YtbccjcdmpiolpaaDoor.Pure
open Go.RowKit Go.Proofs.YtbccjcdmpiolpaaDoor.T Go.Proofs.YtbccjcdmpiolpaaDoorW.PrintWords Go.Proofs.YtbccjcdmpiolpaaDoorW.PrintLast Go.Proofs.YtbccjcdmpiolpaaDoorW.PrintMore
set_option linter.unusedVariables false
set_option linter.unusedSimpArgs false
theorem lS_some {s : ByteArray} {p v e : Int} (h : lS s p = some (v, e)) : 0 ≤ p ∧ p + 1 < e ∧ e ≤ (s.size : Int) ∧ 0 ≤ v ∧ v ≤ 65535 := by
 unfold lS at h
 by_cases c : kindS s p = 6
 ·have hk := kindS_in (s := s) (p := p) (by omega)
  rw [if_pos c] at h
  cases hu : uS s (p + 1) with
  | none => rw [hu] at h; cases h
  | some ve =>
   obtain ⟨v', e'⟩ := ve
   have hb := uS_some hu
   rw [hu] at h
   have h' : (if v' > 65535 then none else some (v', e')) = some (v, e) := h
   by_cases c1 : v' > 65535
   ·rw [if_pos c1] at h'; cases h'
   ·rw [if_neg c1] at h'
    obtain ⟨rfl, rfl⟩ := Prod.mk.inj (Option.some.inj h')
    omega
 ·rw [if_neg c] at h; cases h
theorem tS_some {s : ByteArray} {p : Int} {t : ByteArray} {e : Int} (h : tS s p = some (t, e)) : 0 ≤ p ∧ p + 1 < e ∧ e ≤ (s.size : Int) := by
 unfold tS at h
 by_cases c : kindS s p = 5
 ·have hk := kindS_in (s := s) (p := p) (by omega)
  rw [if_pos c] at h
  cases hu : uS s (p + 1) with
  | none => rw [hu] at h; cases h
  | some ve =>
   obtain ⟨v', e'⟩ := ve
   have hb := uS_some hu
   rw [hu] at h
   have h' : (if v' > 65535 then none else if v' > (s.size : Int) - e' then none else some (s.extract e'.toNat (e' + v').toNat, e' + v')) = some (t, e) := h
   by_cases c1 : v' > 65535
   ·rw [if_pos c1] at h'; cases h'
   ·rw [if_neg c1] at h'
    by_cases c2 : v' > (s.size : Int) - e'
    ·rw [if_pos c2] at h'; cases h'
    ·rw [if_neg c2] at h'
     obtain ⟨rfl, rfl⟩ := Prod.mk.inj (Option.some.inj h')
     omega
 ·rw [if_neg c] at h; cases h
theorem opt3_none : opt3 none = (0, 0, false) := rfl
theorem opt3_some (v e : Int) : opt3 (some (v, e)) = (v, e, true) := rfl
theorem optT_none : optT none = ((⟨#[]⟩ : ByteArray), 0, false) := rfl
theorem optT_some (v : ByteArray) (e : Int) : optT (some (v, e)) = (v, e, true) := rfl
end Go.Proofs.YtbccjcdmpiolpaaDoor.Pure
end
section
namespace Go.Proofs.YtbccjcdmpiolpaaDoor.T
open Go.RowKit Go.Proofs.YtbccjcdmpiolpaaDoorW.PrintWords Go.Proofs.YtbccjcdmpiolpaaDoorW.PrintLast Go.Proofs.YtbccjcdmpiolpaaDoorW.PrintMore
attribute [local go_sem] max2_int min2_int max_two min_two max_three min_three max_four min_four
set_option linter.unusedVariables false
set_option linter.unusedSimpArgs false
def IsS102 (w0 W : World) (g : Nat) (f0 : ByteArray) (f1 : Int) (f2 : Int) : Prop := W.heap[g]? = some (.cells #[.string f0, .int .i64 f1, .int .i64 f2] 102 (0, 0)) ∧ w0.heap.size ≤ g
theorem IsS102.grown {w0 W : World} {g : Nat} {f0 : ByteArray} {f1 : Int} {f2 : Int} {W1 : World} {row : Option Nat} (h : IsS102 w0 W g f0 f1 f2) (hw : W.grownBy W1 row) (hne : some g ≠ row) : IsS102 w0 W1 g f0 f1 f2 := by
 obtain ⟨hb, hg⟩ := h
 exact ⟨blk_grown hb hw hne, hg⟩
theorem IsS102.below {w0 W : World} {g : Nat} {f0 : ByteArray} {f1 : Int} {f2 : Int} {W1 : World} (h : IsS102 w0 W g f0 f1 f2) (hw : Below W.heap.size W W1) : IsS102 w0 W1 g f0 f1 f2 := h.grown (grown_of_below hw none) (by simp)
theorem IsS102.drewN {w0 W : World} {g : Nat} {f0 : ByteArray} {f1 : Int} {f2 : Int} (h : IsS102 w0 W g f0 f1 f2) (m : Nat) : IsS102 w0 (W.drewN m) g f0 f1 f2 := h
theorem IsS102.drew {w0 W : World} {g : Nat} {f0 : ByteArray} {f1 : Int} {f2 : Int} (h : IsS102 w0 W g f0 f1 f2) : IsS102 w0 W.drew g f0 f1 f2 := h
theorem IsS102.ge {w0 W : World} {g : Nat} {f0 : ByteArray} {f1 : Int} {f2 : Int} (h : IsS102 w0 W g f0 f1 f2) : w0.heap.size ≤ g := by
 obtain ⟨hb, hg⟩ := h
 exact hg
theorem cellS102_0 {W : World} {g : Nat} {f0 : ByteArray} {f1 : Int} {f2 : Int} (h : W.heap[g]? = some (.cells #[.string f0, .int .i64 f1, .int .i64 f2] 102 (0, 0))) : W.cell? ⟨g, 0, none⟩ = some (.string f0) := (blk_cell h 0).trans rfl
theorem cellS102_1 {W : World} {g : Nat} {f0 : ByteArray} {f1 : Int} {f2 : Int} (h : W.heap[g]? = some (.cells #[.string f0, .int .i64 f1, .int .i64 f2] 102 (0, 0))) : W.cell? ⟨g, 1, none⟩ = some (.int .i64 f1) := (blk_cell h 1).trans rfl
theorem IsS102.set_1 {w0 W : World} {g : Nat} {f0 : ByteArray} {f1 : Int} {f2 : Int} (h : IsS102 w0 W g f0 f1 f2) (x : Int) : IsS102 w0 (W.setCell ⟨g, 1, none⟩ (.int .i64 x)) g f0 x f2 := by
 obtain ⟨hb, hg⟩ := h
 exact ⟨by simpa using blk_set hb 1 (.int .i64 x), hg⟩
theorem cellS102_2 {W : World} {g : Nat} {f0 : ByteArray} {f1 : Int} {f2 : Int} (h : W.heap[g]? = some (.cells #[.string f0, .int .i64 f1, .int .i64 f2] 102 (0, 0))) : W.cell? ⟨g, 2, none⟩ = some (.int .i64 f2) := (blk_cell h 2).trans rfl
theorem IsS102.set_2 {w0 W : World} {g : Nat} {f0 : ByteArray} {f1 : Int} {f2 : Int} (h : IsS102 w0 W g f0 f1 f2) (x : Int) : IsS102 w0 (W.setCell ⟨g, 2, none⟩ (.int .i64 x)) g f0 f1 x := by
 obtain ⟨hb, hg⟩ := h
 exact ⟨by simpa using blk_set hb 2 (.int .i64 x), hg⟩
def codec_NewReader.f (a0 : ByteArray) : Option (ByteArray × Int × Int) := some (a0, 0, 0)
set_option maxHeartbeats 8000000 in
set_option maxRecDepth 100000 in
theorem codec_NewReader.calls (a0 : ByteArray) (r1 : ByteArray) (r2 : Int) (r3 : Int) (w0 w : World) (hG : Glob w0) (hB : Below w0.heap.size w0 w) (h : codec_NewReader.f a0 = some (r1, r2, r3)) :
  Calls Tryd.prog 31 #[.string a0] w fun e w' => ∃ g_ : Nat, e = .returned (.pointer (some ⟨g_, 0, none⟩)) ∧ IsS102 w0 w' g_ r1 r2 r3 ∧ Below w0.heap.size w0 w' ∧ Below w.heap.size w w' := by
 have hu102 := Tryd.underlying102
 have HG := Aside0.mk hG
 clear hG
 have HBW := Aside0.mk (Below.refl w.heap.size w)
 have HW0 := Aside0.mk hB.size
 have HB := Aside0.mk hB
 clear hB
 have H : (some (a0, 0, 0)) = some (r1, r2, r3) := h
 clear h
 simp only [Option.some.injEq, Prod.mk.injEq] at H
 obtain ⟨rfl, rfl, rfl⟩ := H
 go_enter Tryd.func31, Tryd.ntmps31
 go_wp2_with (first | ((with_reducible refine gate_dst (N := 5) rfl ?_); refine box_event ?hg (N := 5) ?hd (cs := #[.string a0, .int .i64 0, .int .i64 0]) (t := 102) ?hr ?_; (case hd => rfl); (case hg => rfl); (case hr => first | (go_simp; done) | (go_simp; rfl)); intro gb112 hg w2 hbox hb; have n0_ := Aside0.mk (below_step HBW.out hb); have n1_ := Aside0.mk (below_step (by repeat (first | (with_reducible first | exact HB.out | apply below_alloc | apply pw_below_drewN | apply below_drew1) | exact HB.out)) hb); have n2_ := Aside0.mk (hbox); have n3_ := Aside0.mk ((by rw [hg]; exact (below_size (by repeat (first | (with_reducible first | exact HBW.out | apply below_alloc | apply pw_below_drewN | apply below_drew1) | exact HBW.out))) : w.heap.size ≤ gb112)); have n4_ := Aside0.mk ((Nat.le_trans HW0.out (by rw [hg]; exact (below_size (by repeat (first | (with_reducible first | exact HBW.out | apply below_alloc | apply pw_below_drewN | apply below_drew1) | exact HBW.out))) : w.heap.size ≤ gb112) : w0.heap.size ≤ gb112)); clear HBW; clear HB; have HBW := n0_; have HB := n1_; have BK112 := n2_; have GW112 := n3_; have GE112 := n4_; clear n0_ n1_ n2_ n3_ n4_; clear hb hbox hg))
 go_ret
 exact ⟨_, rfl, (show IsS102 w0 _ gb112 a0 0 0 from ⟨by (with_reducible repeat (first | refine blk_drewN ?_ _ | refine blk_drew ?_ | refine blk_alloc ?_ _)); exact BK112.out, GE112.out⟩), by repeat (first | (with_reducible first | exact HB.out | apply below_alloc | apply pw_below_drewN | apply below_drew1 | refine below_set ?_ GE112.out) | exact HB.out), by repeat (first | (with_reducible first | exact HBW.out | apply below_alloc | apply pw_below_drewN | apply below_drew1 | refine below_set ?_ GW112.out) | exact HBW.out)⟩
end Go.Proofs.YtbccjcdmpiolpaaDoor.T
end
section
namespace Go.Proofs.YtbccjcdmpiolpaaDoor.T
open Go.RowKit Go.Proofs.YtbccjcdmpiolpaaDoorW.PrintWords Go.Proofs.YtbccjcdmpiolpaaDoorW.PrintLast Go.Proofs.YtbccjcdmpiolpaaDoorW.PrintMore
attribute [local go_sem] max2_int min2_int max_two min_two max_three min_three max_four min_four
set_option linter.unusedVariables false
set_option linter.unusedSimpArgs false
def codec_Reader_List.f (k : Nat) (s0_0 : ByteArray) (s0_1 : Int) (s0_2 : Int) : Option (Int × ByteArray × Int × Int) := if s0_2 = 0 then ((codec_list.f k s0_0 s0_1).bind fun bt123 => (if bt123.2.2 = true then (some (bt123.1, s0_0, bt123.2.1, s0_2)) else (some (0, s0_0, s0_1, 2)))) else (some (0, s0_0, s0_1, s0_2))
def codec_Reader_List.T60004 : Bool × List (List Nat × List Nat) := (true, [([], []), ([], []), ([1], [1]), ([2], [2]), ([3], [3]), ([], []), ([5], [5]), ([6], [6]), ([7], [7]), ([0, 4, 8], [0, 4, 8]), ([9], [9]), ([10], [10]), ([10], [10]), ([10], [10]), ([11, 9, 0, 1, 2, 3, 4, 5, 6, 7, 8, 9, 10, 11], [11]), ([12, 14, 0, 1, 2, 3, 4, 5, 6, 7, 8, 9, 10, 11, 12, 14], [12]), ([13, 15, 0, 1, 2, 3, 4, 5, 6, 7, 8, 9, 10, 11, 12, 13, 14, 15], [13])])
def codec_Reader_List.B60004 : List Nat := [0, 0, 2, 6, 14, 0, 32, 96, 224, 511, 1023, 2047, 2047, 2047, 4095, 24575, 65535]
theorem codec_Reader_List.tab60004 : rtab .any (opsOf Tryd.f60 4) = codec_Reader_List.T60004 := by kernel_rfl
theorem codec_Reader_List.bits60004 : waitsOk codec_Reader_List.T60004.2 codec_Reader_List.B60004 = true := by kernel_rfl
set_option maxHeartbeats 8000000 in
set_option maxRecDepth 100000 in
theorem codec_Reader_List.calls (k : Nat) (g : Nat) (s0_0 : ByteArray) (s0_1 : Int) (s0_2 : Int) (r1 : Int) (r2 : ByteArray) (r3 : Int) (r4 : Int) (w0 w : World) (hG : Glob w0) (hI : IsS102 w0 w g s0_0 s0_1 s0_2) (hB : Below w0.heap.size w0 w) (h : codec_Reader_List.f k s0_0 s0_1 s0_2 = some (r1, r2, r3, r4)) :
  Calls Tryd.prog 37 #[.pointer (some ⟨g, 0, none⟩)] w fun e w' => e = .returned (.int .i64 r1) ∧ IsS102 w0 w' g r2 r3 r4 ∧ Below w0.heap.size w0 w' ∧ KeepBut w w' g none := by
 have hmf_ : ∀ (fn : Fn) (first cap : Array Value) (w : World), (Instr.makeFunc fn first cap).run Tryd.prog w = .ok (.func fn first cap) w := fun _ _ _ _ => rfl
 have HG := Aside0.mk hG
 clear hG
 have HI0 := Aside0.mk hI
 have HK := Aside0.mk (KeepBut.refl w g none)
 have HL := Aside0.mk hB.size
 clear hI
 have HW0 := Aside0.mk hB.size
 have HB := Aside0.mk hB
 clear hB
 have H : (if s0_2 = 0 then ((codec_list.f k s0_0 s0_1).bind fun bt123 => (if bt123.2.2 = true then (some (bt123.1, s0_0, bt123.2.1, s0_2)) else (some (0, s0_0, s0_1, 2)))) else (some (0, s0_0, s0_1, s0_2))) = some (r1, r2, r3, r4) := h
 clear h
 by_cases c2 : s0_2 = 0
 ·rw [if_pos c2] at H
  have c2b0 : (s0_2 == 0) = true := beq_iff_eq.mpr c2
  have c2b1 : (s0_2 != 0) = false := bne_eq_false_iff_eq.mpr c2
  clear c2
  replace H := Option.bind_eq_some_iff.mp H
  obtain ⟨⟨t123, t124, t125⟩, A30, H⟩ := H
  replace H : (if t125 = true then (some (t123, s0_0, t124, s0_2)) else (some (0, s0_0, s0_1, 2))) = some (r1, r2, r3, r4) := H
  have A3 := Aside0.mk A30
  clear A30
  by_cases c4 : t125 = true
  ·subst c4
   have H1 : (some (t123, s0_0, t124, s0_2)) = some (r1, r2, r3, r4) := by rw [if_pos rfl] at H; exact H
   clear H
   have H := H1
   clear H1
   simp only [Option.some.injEq, Prod.mk.injEq] at H
   obtain ⟨rfl, rfl, rfl, rfl⟩ := H
   obtain ⟨HGz5, hgz5⟩ := HI0.out
   have hcz5_0 := cellS102_0 HGz5
   have hcz5_1 := cellS102_1 HGz5
   have hcz5_2 := cellS102_2 HGz5
   have hfz5_0 := blk_frozen HGz5 0
   have hfz5_1 := blk_frozen HGz5 1
   have hfz5_2 := blk_frozen HGz5 2
   clear HGz5 hgz5
   go_enter Tryd.func37, Tryd.ntmps37
   try go_wp2_with (first | (go_at_call 60; go_in) | ((try simp only [Exit.inBlock, Exit.then]); refine bodyPost_end (results_none rfl _ _ _) rfl ?_; simp only []; go_at_K))
   have n0_ := Aside0.mk (IsS102.drew HI0.out)
   have n1_ := Aside0.mk (keep_drew HK.out)
   have n2_ := Aside0.mk (below_drew1 HB.out)
   clear HI0
   clear HK
   clear HB
   have HI0 := n0_
   have HK := n1_
   have HB := n2_
   clear n0_ n1_ n2_
   refine start_ (n := 17) (S := fun w' => w'.cell? ⟨g, 0, none⟩ = some (.string s0_0) ∧ w'.cell? ⟨g, 1, none⟩ = some (.int .i64 s0_1) ∧ w'.cell? ⟨g, 2, none⟩ = some (.int .i64 s0_2)) (ds := []) #[Yn, Yn, Yn, Yn, Yn, Yn, Yn, Yn, Yn, Yn, Yn, Yn, Yn, Yn, Yn, Yn, Yn] (by kernel_rfl) rfl rfl ⟨(blk_cell (Aside0.mk HI0.out.1).out 0).trans rfl, (blk_cell (Aside0.mk HI0.out.1).out 1).trans rfl, (blk_cell (Aside0.mk HI0.out.1).out 2).trans rfl⟩ (fun hHeld => ?_); refine with_tabW codec_Reader_List.tab60004 codec_Reader_List.bits60004 (fun HT_ HW_ => ?_)
   generalize w.drew = w6 at HI0 HK HB hHeld ⊢
   refine P3 HT_.out 0 16 ?_ (Bz 17 0x1) ?_ ?_ ?_ ?_
   rotate_left
   ·intro w'
    go_simp
    with_reducible rfl
   rotate_left
   ·simp only [Act.put, Z1, Z2, Z3, i64_w, i32_w]
    rfl
   refine P3 HT_.out 1 17 ?_ (Bz 17 0x3) ?_ ?_ ?_ ?_
   rotate_left
   ·intro w'
    go_simp
    with_reducible rfl
   rotate_left
   ·simp only [Act.put, Z1, Z2, Z3, i64_w, i32_w]
    rfl
   refine P3 HT_.out 2 18 ?_ (Bz 17 0x7) ?_ ?_ ?_ ?_
   rotate_left
   ·intro w'
    go_simp
    with_reducible rfl
   rotate_left
   ·simp only [Act.put, Z1, Z2, Z3, i64_w, i32_w]
    rfl
   refine P3 HT_.out 3 19 ?_ (Bz 17 0xf) ?_ ?_ ?_ ?_
   rotate_left
   ·intro w'
    go_simp
    with_reducible rfl
   rotate_left
   ·simp only [Act.put, Z1, Z2, Z3, i64_w, i32_w]
    rfl
   refine P3 HT_.out 5 21 ?_ (Bz 17 0x2f) ?_ ?_ ?_ ?_
   rotate_left
   ·intro w'
    go_simp
    with_reducible rfl
   rotate_left
   ·simp only [Act.put, Z1, Z2, Z3, i64_w, i32_w]
    rfl
   refine P3 HT_.out 6 22 ?_ (Bz 17 0x6f) ?_ ?_ ?_ ?_
   rotate_left
   ·intro w'
    go_simp
    with_reducible rfl
   rotate_left
   ·simp only [Act.put, Z1, Z2, Z3, i64_w, i32_w]
    rfl
   refine P3 HT_.out 7 23 ?_ (Bz 17 0xef) ?_ ?_ ?_ ?_
   rotate_left
   ·intro w'
    go_simp
    with_reducible rfl
   rotate_left
   ·simp only [Act.put, Z1, Z2, Z3, i64_w, i32_w]
    rfl
   refine P6 HT_.out HW_.out 4 20 ?_ (Bz 17 0xff) ?_ hHeld ?_ ?_ ?_
   rotate_left
   ·rintro w' ⟨s0, s1, s2⟩
    go_simp
    with_reducible rfl
   rotate_left
   ·simp only [Act.put, Z1, Z2, Z3, i64_w, i32_w]
    rfl
   refine P6 HT_.out HW_.out 8 24 ?_ (Bz 17 0x1ff) ?_ hHeld ?_ ?_ ?_
   rotate_left
   ·rintro w' ⟨s0, s1, s2⟩
    go_simp
    with_reducible rfl
   rotate_left
   ·simp only [Act.put, Z1, Z2, Z3, i64_w, i32_w]
    rfl
   refine one_ (i := 9) (N := some 25) #[Y, Y, Y, Y, Y, Y, Y, Y, Y, Y, Yn, Yn, Yn, Yn, Yn, Yn, Yn] rfl rfl (one_of HT_.out (by kernel_rfl)) (by decide) (fun K hK => ?_)
   refine goesT_ Tryd.func61 (by kernel_rfl) rfl #[.string s0_0, .int .i64 s0_1] (by rfl) rfl rfl rfl (by (try simp only [List.map_toArray, List.map_cons, List.map_nil]); first | done | rfl | (simp only [List.length_drop, List.length_take]; rfl)) ?_
   with_reducible refine (codec_list.calls k s0_0 s0_1 t123 t124 true _ ?side99  A3.out).mono ?_
   (case side99 => first | exact HG.out | exact Glob.below HG.out (by repeat (first | (with_reducible first | exact HB.out | apply below_alloc | apply pw_below_drewN | apply below_drew1 | refine below_set ?_ (IsS102.ge HI0.out)) | exact HB.out)))
   rintro e w7 ⟨rfl, hb⟩
   refine ⟨_, rfl, ?_⟩
   have n0_ := Aside0.mk (IsS102.below (by repeat (first | (with_reducible first | exact HI0.out | apply IsS102.alloc | apply IsS102.drewN | apply IsS102.drew | apply IsS102.set_0 | apply IsS102.set_1 | apply IsS102.set_2) | exact HI0.out)) hb)
   have n1_ := Aside0.mk (KeepBut.trans (by repeat (first | (with_reducible first | exact HK.out | apply KeepBut.set_ | apply keep_drewN | apply keep_drew | apply keep_alloc) | exact HK.out)) (KeepBut.of_below hb g none) (.inl rfl))
   have n2_ := Aside0.mk (below_step (by repeat (first | (with_reducible first | exact HB.out | apply below_alloc | apply pw_below_drewN | apply below_drew1 | refine below_set ?_ (IsS102.ge HI0.out)) | exact HB.out)) hb)
   clear HI0
   clear HK
   clear HB
   have HI0 := n0_
   have HK := n1_
   have HB := n2_
   clear n0_ n1_ n2_
   (try clear hb)
   (try clear hb2)
   (try clear hk)
   (try clear hi)
   refine hK.out _ _ ⟨(blk_cell (Aside0.mk HI0.out.1).out 0).trans rfl, (blk_cell (Aside0.mk HI0.out.1).out 1).trans rfl, (blk_cell (Aside0.mk HI0.out.1).out 2).trans rfl⟩ (fun hHeld => ?_)
   clear hK K
   refine norm_ (a' := ?_) ?_ ?_
   rotate_left
   ·show Act.put _ (some 25) _ = _
    simp only [Act.put, Z1, Z2, Z3, i64_w, i32_w]
    rfl
   refine P3 HT_.out 10 15 ?_ (Bz 17 0x7ff) ?_ ?_ ?_ ?_
   rotate_left
   ·intro w'
    go_simp
    with_reducible rfl
   rotate_left
   ·simp only [Act.put, Z1, Z2, Z3, i64_w, i32_w]
    rfl
   refine P3 HT_.out 11 26 ?_ (Bz 17 0xfff) ?_ ?_ ?_ ?_
   rotate_left
   ·intro w'
    go_simp
    with_reducible rfl
   rotate_left
   ·simp only [Act.put, Z1, Z2, Z3, i64_w, i32_w]
    rfl
   refine P3 HT_.out 12 27 ?_ (Bz 17 0x1fff) ?_ ?_ ?_ ?_
   rotate_left
   ·intro w'
    go_simp
    with_reducible rfl
   rotate_left
   ·simp only [Act.put, Z1, Z2, Z3, i64_w, i32_w]
    rfl
   refine P3 HT_.out 13 28 ?_ (Bz 17 0x3fff) ?_ ?_ ?_ ?_
   rotate_left
   ·intro w'
    go_simp
    with_reducible rfl
   rotate_left
   ·simp only [Act.put, Z1, Z2, Z3, i64_w, i32_w]
    rfl
   refine P3 HT_.out 14 6 ?_ (Bz 17 0x7fff) ?_ ?_ ?_ ?_
   rotate_left
   ·intro w'
    go_simp
    with_reducible rfl
   rotate_left
   ·simp only [Act.put, Z1, Z2, Z3, i64_w, i32_w]
    rfl
   refine P3 HT_.out 15 7 ?_ (Bz 17 0xffff) ?_ ?_ ?_ ?_
   rotate_left
   ·intro w'
    go_simp
    with_reducible rfl
   rotate_left
   ·simp only [Act.put, Z1, Z2, Z3, i64_w, i32_w]
    rfl
   refine P3 HT_.out 16 8 ?_ (Bz 17 0x1ffff) ?_ ?_ ?_ ?_
   rotate_left
   ·intro w'
    go_simp
    with_reducible rfl
   rotate_left
   ·simp only [Act.put, Z1, Z2, Z3, i64_w, i32_w]
    rfl
   refine done_ (done_of HT_.out (by kernel_rfl)) ?_
   obtain ⟨HGz8, hgz8⟩ := HI0.out
   have hcz8_0 := cellS102_0 HGz8
   have hcz8_1 := cellS102_1 HGz8
   have hcz8_2 := cellS102_2 HGz8
   have hfz8_0 := blk_frozen HGz8 0
   have hfz8_1 := blk_frozen HGz8 1
   have hfz8_2 := blk_frozen HGz8 2
   clear HGz8 hgz8
   try go_wp2_with (first | (go_at_call 60; go_in) | ((try simp only [Exit.inBlock, Exit.then]); refine bodyPost_end (results_none rfl _ _ _) rfl ?_; simp only []; go_at_K))
   go_ret
   exact ⟨by first | rfl | (simp [errW_none, errW_some] <;> rfl) | (simp [*, errW_none, errW_some] <;> rfl), by repeat (first | (with_reducible first | exact HI0.out | apply IsS102.alloc | apply IsS102.drewN | apply IsS102.drew | apply IsS102.set_0 | apply IsS102.set_1 | apply IsS102.set_2) | exact HI0.out), by repeat (first | (with_reducible first | exact HB.out | apply below_alloc | apply pw_below_drewN | apply below_drew1 | refine below_set ?_ (IsS102.ge HI0.out)) | exact HB.out), by repeat (first | (with_reducible first | exact HK.out | apply KeepBut.set_ | apply keep_drewN | apply keep_drew | apply keep_alloc) | exact HK.out)⟩
  ·replace c4 := Bool.eq_false_iff.mpr c4
   subst c4
   have H1 : (some (0, s0_0, s0_1, 2)) = some (r1, r2, r3, r4) := by rw [if_neg (show ¬ (false = true) by decide)] at H; exact H
   clear H
   have H := H1
   clear H1
   simp only [Option.some.injEq, Prod.mk.injEq] at H
   obtain ⟨rfl, rfl, rfl, rfl⟩ := H
   obtain ⟨HGz9, hgz9⟩ := HI0.out
   have hcz9_0 := cellS102_0 HGz9
   have hcz9_1 := cellS102_1 HGz9
   have hcz9_2 := cellS102_2 HGz9
   have hfz9_0 := blk_frozen HGz9 0
   have hfz9_1 := blk_frozen HGz9 1
   have hfz9_2 := blk_frozen HGz9 2
   clear HGz9 hgz9
   go_enter Tryd.func37, Tryd.ntmps37
   try go_wp2_with (first | (go_at_call 60; go_in) | ((try simp only [Exit.inBlock, Exit.then]); refine bodyPost_end (results_none rfl _ _ _) rfl ?_; simp only []; go_at_K))
   have n0_ := Aside0.mk (IsS102.drew HI0.out)
   have n1_ := Aside0.mk (keep_drew HK.out)
   have n2_ := Aside0.mk (below_drew1 HB.out)
   clear HI0
   clear HK
   clear HB
   have HI0 := n0_
   have HK := n1_
   have HB := n2_
   clear n0_ n1_ n2_
   refine start_ (n := 17) (S := fun w' => w'.cell? ⟨g, 0, none⟩ = some (.string s0_0) ∧ w'.cell? ⟨g, 1, none⟩ = some (.int .i64 s0_1) ∧ w'.cell? ⟨g, 2, none⟩ = some (.int .i64 s0_2)) (ds := []) #[Yn, Yn, Yn, Yn, Yn, Yn, Yn, Yn, Yn, Yn, Yn, Yn, Yn, Yn, Yn, Yn, Yn] (by kernel_rfl) rfl rfl ⟨(blk_cell (Aside0.mk HI0.out.1).out 0).trans rfl, (blk_cell (Aside0.mk HI0.out.1).out 1).trans rfl, (blk_cell (Aside0.mk HI0.out.1).out 2).trans rfl⟩ (fun hHeld => ?_); refine with_tabW codec_Reader_List.tab60004 codec_Reader_List.bits60004 (fun HT_ HW_ => ?_)
   generalize w.drew = w10 at HI0 HK HB hHeld ⊢
   refine P3 HT_.out 0 16 ?_ (Bz 17 0x1) ?_ ?_ ?_ ?_
   rotate_left
   ·intro w'
    go_simp
    with_reducible rfl
   rotate_left
   ·simp only [Act.put, Z1, Z2, Z3, i64_w, i32_w]
    rfl
   refine P3 HT_.out 1 17 ?_ (Bz 17 0x3) ?_ ?_ ?_ ?_
   rotate_left
   ·intro w'
    go_simp
    with_reducible rfl
   rotate_left
   ·simp only [Act.put, Z1, Z2, Z3, i64_w, i32_w]
    rfl
   refine P3 HT_.out 2 18 ?_ (Bz 17 0x7) ?_ ?_ ?_ ?_
   rotate_left
   ·intro w'
    go_simp
    with_reducible rfl
   rotate_left
   ·simp only [Act.put, Z1, Z2, Z3, i64_w, i32_w]
    rfl
   refine P3 HT_.out 3 19 ?_ (Bz 17 0xf) ?_ ?_ ?_ ?_
   rotate_left
   ·intro w'
    go_simp
    with_reducible rfl
   rotate_left
   ·simp only [Act.put, Z1, Z2, Z3, i64_w, i32_w]
    rfl
   refine P3 HT_.out 5 21 ?_ (Bz 17 0x2f) ?_ ?_ ?_ ?_
   rotate_left
   ·intro w'
    go_simp
    with_reducible rfl
   rotate_left
   ·simp only [Act.put, Z1, Z2, Z3, i64_w, i32_w]
    rfl
   refine P3 HT_.out 6 22 ?_ (Bz 17 0x6f) ?_ ?_ ?_ ?_
   rotate_left
   ·intro w'
    go_simp
    with_reducible rfl
   rotate_left
   ·simp only [Act.put, Z1, Z2, Z3, i64_w, i32_w]
    rfl
   refine P3 HT_.out 7 23 ?_ (Bz 17 0xef) ?_ ?_ ?_ ?_
   rotate_left
   ·intro w'
    go_simp
    with_reducible rfl
   rotate_left
   ·simp only [Act.put, Z1, Z2, Z3, i64_w, i32_w]
    rfl
   refine P6 HT_.out HW_.out 4 20 ?_ (Bz 17 0xff) ?_ hHeld ?_ ?_ ?_
   rotate_left
   ·rintro w' ⟨s0, s1, s2⟩
    go_simp
    with_reducible rfl
   rotate_left
   ·simp only [Act.put, Z1, Z2, Z3, i64_w, i32_w]
    rfl
   refine P6 HT_.out HW_.out 8 24 ?_ (Bz 17 0x1ff) ?_ hHeld ?_ ?_ ?_
   rotate_left
   ·rintro w' ⟨s0, s1, s2⟩
    go_simp
    with_reducible rfl
   rotate_left
   ·simp only [Act.put, Z1, Z2, Z3, i64_w, i32_w]
    rfl
   refine one_ (i := 9) (N := some 25) #[Y, Y, Y, Y, Y, Y, Y, Y, Y, Y, Yn, Yn, Yn, Yn, Yn, Yn, Yn] rfl rfl (one_of HT_.out (by kernel_rfl)) (by decide) (fun K hK => ?_)
   refine goesT_ Tryd.func61 (by kernel_rfl) rfl #[.string s0_0, .int .i64 s0_1] (by rfl) rfl rfl rfl (by (try simp only [List.map_toArray, List.map_cons, List.map_nil]); first | done | rfl | (simp only [List.length_drop, List.length_take]; rfl)) ?_
   with_reducible refine (codec_list.calls k s0_0 s0_1 t123 t124 false _ ?side99  A3.out).mono ?_
   (case side99 => first | exact HG.out | exact Glob.below HG.out (by repeat (first | (with_reducible first | exact HB.out | apply below_alloc | apply pw_below_drewN | apply below_drew1 | refine below_set ?_ (IsS102.ge HI0.out)) | exact HB.out)))
   rintro e w11 ⟨rfl, hb⟩
   refine ⟨_, rfl, ?_⟩
   have n0_ := Aside0.mk (IsS102.below (by repeat (first | (with_reducible first | exact HI0.out | apply IsS102.alloc | apply IsS102.drewN | apply IsS102.drew | apply IsS102.set_0 | apply IsS102.set_1 | apply IsS102.set_2) | exact HI0.out)) hb)
   have n1_ := Aside0.mk (KeepBut.trans (by repeat (first | (with_reducible first | exact HK.out | apply KeepBut.set_ | apply keep_drewN | apply keep_drew | apply keep_alloc) | exact HK.out)) (KeepBut.of_below hb g none) (.inl rfl))
   have n2_ := Aside0.mk (below_step (by repeat (first | (with_reducible first | exact HB.out | apply below_alloc | apply pw_below_drewN | apply below_drew1 | refine below_set ?_ (IsS102.ge HI0.out)) | exact HB.out)) hb)
   clear HI0
   clear HK
   clear HB
   have HI0 := n0_
   have HK := n1_
   have HB := n2_
   clear n0_ n1_ n2_
   (try clear hb)
   (try clear hb2)
   (try clear hk)
   (try clear hi)
   refine hK.out _ _ ⟨(blk_cell (Aside0.mk HI0.out.1).out 0).trans rfl, (blk_cell (Aside0.mk HI0.out.1).out 1).trans rfl, (blk_cell (Aside0.mk HI0.out.1).out 2).trans rfl⟩ (fun hHeld => ?_)
   clear hK K
   refine norm_ (a' := ?_) ?_ ?_
   rotate_left
   ·show Act.put _ (some 25) _ = _
    simp only [Act.put, Z1, Z2, Z3, i64_w, i32_w]
    rfl
   refine P3 HT_.out 10 15 ?_ (Bz 17 0x7ff) ?_ ?_ ?_ ?_
   rotate_left
   ·intro w'
    go_simp
    with_reducible rfl
   rotate_left
   ·simp only [Act.put, Z1, Z2, Z3, i64_w, i32_w]
    rfl
   refine P3 HT_.out 11 26 ?_ (Bz 17 0xfff) ?_ ?_ ?_ ?_
   rotate_left
   ·intro w'
    go_simp
    with_reducible rfl
   rotate_left
   ·simp only [Act.put, Z1, Z2, Z3, i64_w, i32_w]
    rfl
   refine P3 HT_.out 12 27 ?_ (Bz 17 0x1fff) ?_ ?_ ?_ ?_
   rotate_left
   ·intro w'
    go_simp
    with_reducible rfl
   rotate_left
   ·simp only [Act.put, Z1, Z2, Z3, i64_w, i32_w]
    rfl
   refine P3 HT_.out 13 28 ?_ (Bz 17 0x3fff) ?_ ?_ ?_ ?_
   rotate_left
   ·intro w'
    go_simp
    with_reducible rfl
   rotate_left
   ·simp only [Act.put, Z1, Z2, Z3, i64_w, i32_w]
    rfl
   refine P3 HT_.out 14 6 ?_ (Bz 17 0x7fff) ?_ ?_ ?_ ?_
   rotate_left
   ·intro w'
    go_simp
    with_reducible rfl
   rotate_left
   ·simp only [Act.put, Z1, Z2, Z3, i64_w, i32_w]
    rfl
   refine P3 HT_.out 15 7 ?_ (Bz 17 0xffff) ?_ ?_ ?_ ?_
   rotate_left
   ·intro w'
    go_simp
    with_reducible rfl
   rotate_left
   ·simp only [Act.put, Z1, Z2, Z3, i64_w, i32_w]
    rfl
   refine P3 HT_.out 16 8 ?_ (Bz 17 0x1ffff) ?_ ?_ ?_ ?_
   rotate_left
   ·intro w'
    go_simp
    with_reducible rfl
   rotate_left
   ·simp only [Act.put, Z1, Z2, Z3, i64_w, i32_w]
    rfl
   refine done_ (done_of HT_.out (by kernel_rfl)) ?_
   obtain ⟨HGz12, hgz12⟩ := HI0.out
   have hcz12_0 := cellS102_0 HGz12
   have hcz12_1 := cellS102_1 HGz12
   have hcz12_2 := cellS102_2 HGz12
   have hfz12_0 := blk_frozen HGz12 0
   have hfz12_1 := blk_frozen HGz12 1
   have hfz12_2 := blk_frozen HGz12 2
   clear HGz12 hgz12
   try go_wp2_with (first | (go_at_call 60; go_in) | ((try simp only [Exit.inBlock, Exit.then]); refine bodyPost_end (results_none rfl _ _ _) rfl ?_; simp only []; go_at_K))
   go_ret
   exact ⟨by first | rfl | (simp [errW_none, errW_some] <;> rfl) | (simp [*, errW_none, errW_some] <;> rfl), by repeat (first | (with_reducible first | exact HI0.out | apply IsS102.alloc | apply IsS102.drewN | apply IsS102.drew | apply IsS102.set_0 | apply IsS102.set_1 | apply IsS102.set_2) | exact HI0.out), by repeat (first | (with_reducible first | exact HB.out | apply below_alloc | apply pw_below_drewN | apply below_drew1 | refine below_set ?_ (IsS102.ge HI0.out)) | exact HB.out), by repeat (first | (with_reducible first | exact HK.out | apply KeepBut.set_ | apply keep_drewN | apply keep_drew | apply keep_alloc) | exact HK.out)⟩
 ·rw [if_neg c2] at H
  have c2b0 : (s0_2 == 0) = false := beq_eq_false_iff_ne.mpr c2
  have c2b1 : (s0_2 != 0) = true := bne_iff_ne.mpr c2
  simp only [Option.some.injEq, Prod.mk.injEq] at H
  obtain ⟨rfl, rfl, rfl, rfl⟩ := H
  obtain ⟨HGz13, hgz13⟩ := HI0.out
  have hcz13_0 := cellS102_0 HGz13
  have hcz13_1 := cellS102_1 HGz13
  have hcz13_2 := cellS102_2 HGz13
  have hfz13_0 := blk_frozen HGz13 0
  have hfz13_1 := blk_frozen HGz13 1
  have hfz13_2 := blk_frozen HGz13 2
  clear HGz13 hgz13
  go_enter Tryd.func37, Tryd.ntmps37
  go_wp2_with (first | (go_at_call 60; go_in) | ((try simp only [Exit.inBlock, Exit.then]); refine bodyPost_end (results_none rfl _ _ _) rfl ?_; simp only []; go_at_K))
  go_ret
  exact ⟨by first | rfl | (simp [errW_none, errW_some] <;> rfl) | (simp [*, errW_none, errW_some] <;> rfl), by repeat (first | (with_reducible first | exact HI0.out | apply IsS102.alloc | apply IsS102.drewN | apply IsS102.drew | apply IsS102.set_0 | apply IsS102.set_1 | apply IsS102.set_2) | exact HI0.out), by repeat (first | (with_reducible first | exact HB.out | apply below_alloc | apply pw_below_drewN | apply below_drew1 | refine below_set ?_ (IsS102.ge HI0.out)) | exact HB.out), by repeat (first | (with_reducible first | exact HK.out | apply KeepBut.set_ | apply keep_drewN | apply keep_drew | apply keep_alloc) | exact HK.out)⟩
end Go.Proofs.YtbccjcdmpiolpaaDoor.T
end
section
namespace Go.Proofs.YtbccjcdmpiolpaaDoor.T
open Go.RowKit Go.Proofs.YtbccjcdmpiolpaaDoorW.PrintWords Go.Proofs.YtbccjcdmpiolpaaDoorW.PrintLast Go.Proofs.YtbccjcdmpiolpaaDoorW.PrintMore
attribute [local go_sem] max2_int min2_int max_two min_two max_three min_three max_four min_four
set_option linter.unusedVariables false
set_option linter.unusedSimpArgs false
def codec_Reader_Text.f (k : Nat) (s0_0 : ByteArray) (s0_1 : Int) (s0_2 : Int) : Option (ByteArray × ByteArray × Int × Int) := if s0_2 = 0 then ((codec_text.f k s0_0 s0_1).bind fun bt130 => (if bt130.2.2 = true then (some (bt130.1, s0_0, bt130.2.1, s0_2)) else (some ((⟨#[]⟩ : ByteArray), s0_0, s0_1, 2)))) else (some ((⟨#[]⟩ : ByteArray), s0_0, s0_1, s0_2))
def codec_Reader_Text.T57004 : Bool × List (List Nat × List Nat) := (true, [([], []), ([], []), ([1], [1]), ([2], [2]), ([3], [3]), ([], []), ([5], [5]), ([6], [6]), ([7], [7]), ([0, 4, 8], [0, 4, 8]), ([9], [9]), ([10], [10]), ([10], [10]), ([10], [10]), ([11, 9, 0, 1, 2, 3, 4, 5, 6, 7, 8, 9, 10, 11], [11]), ([12, 14, 0, 1, 2, 3, 4, 5, 6, 7, 8, 9, 10, 11, 12, 14], [12]), ([13, 15, 0, 1, 2, 3, 4, 5, 6, 7, 8, 9, 10, 11, 12, 13, 14, 15], [13])])
def codec_Reader_Text.B57004 : List Nat := [0, 0, 2, 6, 14, 0, 32, 96, 224, 511, 1023, 2047, 2047, 2047, 4095, 24575, 65535]
theorem codec_Reader_Text.tab57004 : rtab .any (opsOf Tryd.f57 4) = codec_Reader_Text.T57004 := by kernel_rfl
theorem codec_Reader_Text.bits57004 : waitsOk codec_Reader_Text.T57004.2 codec_Reader_Text.B57004 = true := by kernel_rfl
set_option maxHeartbeats 8000000 in
set_option maxRecDepth 100000 in
theorem codec_Reader_Text.calls (k : Nat) (g : Nat) (s0_0 : ByteArray) (s0_1 : Int) (s0_2 : Int) (r1 : ByteArray) (r2 : ByteArray) (r3 : Int) (r4 : Int) (w0 w : World) (hG : Glob w0) (hI : IsS102 w0 w g s0_0 s0_1 s0_2) (hB : Below w0.heap.size w0 w) (h : codec_Reader_Text.f k s0_0 s0_1 s0_2 = some (r1, r2, r3, r4)) :
  Calls Tryd.prog 33 #[.pointer (some ⟨g, 0, none⟩)] w fun e w' => e = .returned (.string r1) ∧ IsS102 w0 w' g r2 r3 r4 ∧ Below w0.heap.size w0 w' ∧ KeepBut w w' g none := by
 have hmf_ : ∀ (fn : Fn) (first cap : Array Value) (w : World), (Instr.makeFunc fn first cap).run Tryd.prog w = .ok (.func fn first cap) w := fun _ _ _ _ => rfl
 have HG := Aside0.mk hG
 clear hG
 have HI0 := Aside0.mk hI
 have HK := Aside0.mk (KeepBut.refl w g none)
 have HL := Aside0.mk hB.size
 clear hI
 have HW0 := Aside0.mk hB.size
 have HB := Aside0.mk hB
 clear hB
 have H : (if s0_2 = 0 then ((codec_text.f k s0_0 s0_1).bind fun bt130 => (if bt130.2.2 = true then (some (bt130.1, s0_0, bt130.2.1, s0_2)) else (some ((⟨#[]⟩ : ByteArray), s0_0, s0_1, 2)))) else (some ((⟨#[]⟩ : ByteArray), s0_0, s0_1, s0_2))) = some (r1, r2, r3, r4) := h
 clear h
 by_cases c2 : s0_2 = 0
 ·rw [if_pos c2] at H
  have c2b0 : (s0_2 == 0) = true := beq_iff_eq.mpr c2
  have c2b1 : (s0_2 != 0) = false := bne_eq_false_iff_eq.mpr c2
  clear c2
  replace H := Option.bind_eq_some_iff.mp H
  obtain ⟨⟨t130, t131, t132⟩, A30, H⟩ := H
  replace H : (if t132 = true then (some (t130, s0_0, t131, s0_2)) else (some ((⟨#[]⟩ : ByteArray), s0_0, s0_1, 2))) = some (r1, r2, r3, r4) := H
  have A3 := Aside0.mk A30
  clear A30
  by_cases c4 : t132 = true
  ·subst c4
   have H1 : (some (t130, s0_0, t131, s0_2)) = some (r1, r2, r3, r4) := by rw [if_pos rfl] at H; exact H
   clear H
   have H := H1
   clear H1
   simp only [Option.some.injEq, Prod.mk.injEq] at H
   obtain ⟨rfl, rfl, rfl, rfl⟩ := H
   obtain ⟨HGz5, hgz5⟩ := HI0.out
   have hcz5_0 := cellS102_0 HGz5
   have hcz5_1 := cellS102_1 HGz5
   have hcz5_2 := cellS102_2 HGz5
   have hfz5_0 := blk_frozen HGz5 0
   have hfz5_1 := blk_frozen HGz5 1
   have hfz5_2 := blk_frozen HGz5 2
   clear HGz5 hgz5
   go_enter Tryd.func33, Tryd.ntmps33
   try go_wp2_with (first | (go_at_call 57; go_in) | ((try simp only [Exit.inBlock, Exit.then]); refine bodyPost_end (results_none rfl _ _ _) rfl ?_; simp only []; go_at_K))
   have n0_ := Aside0.mk (IsS102.drew HI0.out)
   have n1_ := Aside0.mk (keep_drew HK.out)
   have n2_ := Aside0.mk (below_drew1 HB.out)
   clear HI0
   clear HK
   clear HB
   have HI0 := n0_
   have HK := n1_
   have HB := n2_
   clear n0_ n1_ n2_
   refine start_ (n := 17) (S := fun w' => w'.cell? ⟨g, 0, none⟩ = some (.string s0_0) ∧ w'.cell? ⟨g, 1, none⟩ = some (.int .i64 s0_1) ∧ w'.cell? ⟨g, 2, none⟩ = some (.int .i64 s0_2)) (ds := []) #[Yn, Yn, Yn, Yn, Yn, Yn, Yn, Yn, Yn, Yn, Yn, Yn, Yn, Yn, Yn, Yn, Yn] (by kernel_rfl) rfl rfl ⟨(blk_cell (Aside0.mk HI0.out.1).out 0).trans rfl, (blk_cell (Aside0.mk HI0.out.1).out 1).trans rfl, (blk_cell (Aside0.mk HI0.out.1).out 2).trans rfl⟩ (fun hHeld => ?_); refine with_tabW codec_Reader_Text.tab57004 codec_Reader_Text.bits57004 (fun HT_ HW_ => ?_)
   generalize w.drew = w6 at HI0 HK HB hHeld ⊢
   refine P3 HT_.out 0 16 ?_ (Bz 17 0x1) ?_ ?_ ?_ ?_
   rotate_left
   ·intro w'
    go_simp
    with_reducible rfl
   rotate_left
   ·simp only [Act.put, Z1, Z2, Z3, i64_w, i32_w]
    rfl
   refine P3 HT_.out 1 17 ?_ (Bz 17 0x3) ?_ ?_ ?_ ?_
   rotate_left
   ·intro w'
    go_simp
    with_reducible rfl
   rotate_left
   ·simp only [Act.put, Z1, Z2, Z3, i64_w, i32_w]
    rfl
   refine P3 HT_.out 2 18 ?_ (Bz 17 0x7) ?_ ?_ ?_ ?_
   rotate_left
   ·intro w'
    go_simp
    with_reducible rfl
   rotate_left
   ·simp only [Act.put, Z1, Z2, Z3, i64_w, i32_w]
    rfl
   refine P3 HT_.out 3 19 ?_ (Bz 17 0xf) ?_ ?_ ?_ ?_
   rotate_left
   ·intro w'
    go_simp
    with_reducible rfl
   rotate_left
   ·simp only [Act.put, Z1, Z2, Z3, i64_w, i32_w]
    rfl
   refine P3 HT_.out 5 21 ?_ (Bz 17 0x2f) ?_ ?_ ?_ ?_
   rotate_left
   ·intro w'
    go_simp
    with_reducible rfl
   rotate_left
   ·simp only [Act.put, Z1, Z2, Z3, i64_w, i32_w]
    rfl
   refine P3 HT_.out 6 22 ?_ (Bz 17 0x6f) ?_ ?_ ?_ ?_
   rotate_left
   ·intro w'
    go_simp
    with_reducible rfl
   rotate_left
   ·simp only [Act.put, Z1, Z2, Z3, i64_w, i32_w]
    rfl
   refine P3 HT_.out 7 23 ?_ (Bz 17 0xef) ?_ ?_ ?_ ?_
   rotate_left
   ·intro w'
    go_simp
    with_reducible rfl
   rotate_left
   ·simp only [Act.put, Z1, Z2, Z3, i64_w, i32_w]
    rfl
   refine P6 HT_.out HW_.out 4 20 ?_ (Bz 17 0xff) ?_ hHeld ?_ ?_ ?_
   rotate_left
   ·rintro w' ⟨s0, s1, s2⟩
    go_simp
    with_reducible rfl
   rotate_left
   ·simp only [Act.put, Z1, Z2, Z3, i64_w, i32_w]
    rfl
   refine P6 HT_.out HW_.out 8 24 ?_ (Bz 17 0x1ff) ?_ hHeld ?_ ?_ ?_
   rotate_left
   ·rintro w' ⟨s0, s1, s2⟩
    go_simp
    with_reducible rfl
   rotate_left
   ·simp only [Act.put, Z1, Z2, Z3, i64_w, i32_w]
    rfl
   refine one_ (i := 9) (N := some 25) #[Y, Y, Y, Y, Y, Y, Y, Y, Y, Y, Yn, Yn, Yn, Yn, Yn, Yn, Yn] rfl rfl (one_of HT_.out (by kernel_rfl)) (by decide) (fun K hK => ?_)
   refine goesT_ Tryd.func58 (by kernel_rfl) rfl #[.string s0_0, .int .i64 s0_1] (by rfl) rfl rfl rfl (by (try simp only [List.map_toArray, List.map_cons, List.map_nil]); first | done | rfl | (simp only [List.length_drop, List.length_take]; rfl)) ?_
   with_reducible refine (codec_text.calls k s0_0 s0_1 t130 t131 true _ ?side99  A3.out).mono ?_
   (case side99 => first | exact HG.out | exact Glob.below HG.out (by repeat (first | (with_reducible first | exact HB.out | apply below_alloc | apply pw_below_drewN | apply below_drew1 | refine below_set ?_ (IsS102.ge HI0.out)) | exact HB.out)))
   rintro e w7 ⟨rfl, hb⟩
   refine ⟨_, rfl, ?_⟩
   have n0_ := Aside0.mk (IsS102.below (by repeat (first | (with_reducible first | exact HI0.out | apply IsS102.alloc | apply IsS102.drewN | apply IsS102.drew | apply IsS102.set_0 | apply IsS102.set_1 | apply IsS102.set_2) | exact HI0.out)) hb)
   have n1_ := Aside0.mk (KeepBut.trans (by repeat (first | (with_reducible first | exact HK.out | apply KeepBut.set_ | apply keep_drewN | apply keep_drew | apply keep_alloc) | exact HK.out)) (KeepBut.of_below hb g none) (.inl rfl))
   have n2_ := Aside0.mk (below_step (by repeat (first | (with_reducible first | exact HB.out | apply below_alloc | apply pw_below_drewN | apply below_drew1 | refine below_set ?_ (IsS102.ge HI0.out)) | exact HB.out)) hb)
   clear HI0
   clear HK
   clear HB
   have HI0 := n0_
   have HK := n1_
   have HB := n2_
   clear n0_ n1_ n2_
   (try clear hb)
   (try clear hb2)
   (try clear hk)
   (try clear hi)
   refine hK.out _ _ ⟨(blk_cell (Aside0.mk HI0.out.1).out 0).trans rfl, (blk_cell (Aside0.mk HI0.out.1).out 1).trans rfl, (blk_cell (Aside0.mk HI0.out.1).out 2).trans rfl⟩ (fun hHeld => ?_)
   clear hK K
   refine norm_ (a' := ?_) ?_ ?_
   rotate_left
   ·show Act.put _ (some 25) _ = _
    simp only [Act.put, Z1, Z2, Z3, i64_w, i32_w]
    rfl
   refine P3 HT_.out 10 15 ?_ (Bz 17 0x7ff) ?_ ?_ ?_ ?_
   rotate_left
   ·intro w'
    go_simp
    with_reducible rfl
   rotate_left
   ·simp only [Act.put, Z1, Z2, Z3, i64_w, i32_w]
    rfl
   refine P3 HT_.out 11 26 ?_ (Bz 17 0xfff) ?_ ?_ ?_ ?_
   rotate_left
   ·intro w'
    go_simp
    with_reducible rfl
   rotate_left
   ·simp only [Act.put, Z1, Z2, Z3, i64_w, i32_w]
    rfl
   refine P3 HT_.out 12 27 ?_ (Bz 17 0x1fff) ?_ ?_ ?_ ?_
   rotate_left
   ·intro w'
    go_simp
    with_reducible rfl
   rotate_left
   ·simp only [Act.put, Z1, Z2, Z3, i64_w, i32_w]
    rfl
   refine P3 HT_.out 13 28 ?_ (Bz 17 0x3fff) ?_ ?_ ?_ ?_
   rotate_left
   ·intro w'
    go_simp
    with_reducible rfl
   rotate_left
   ·simp only [Act.put, Z1, Z2, Z3, i64_w, i32_w]
    rfl
   refine P3 HT_.out 14 6 ?_ (Bz 17 0x7fff) ?_ ?_ ?_ ?_
   rotate_left
   ·intro w'
    go_simp
    with_reducible rfl
   rotate_left
   ·simp only [Act.put, Z1, Z2, Z3, i64_w, i32_w]
    rfl
   refine P3 HT_.out 15 7 ?_ (Bz 17 0xffff) ?_ ?_ ?_ ?_
   rotate_left
   ·intro w'
    go_simp
    with_reducible rfl
   rotate_left
   ·simp only [Act.put, Z1, Z2, Z3, i64_w, i32_w]
    rfl
   refine P3 HT_.out 16 8 ?_ (Bz 17 0x1ffff) ?_ ?_ ?_ ?_
   rotate_left
   ·intro w'
    go_simp
    with_reducible rfl
   rotate_left
   ·simp only [Act.put, Z1, Z2, Z3, i64_w, i32_w]
    rfl
   refine done_ (done_of HT_.out (by kernel_rfl)) ?_
   obtain ⟨HGz8, hgz8⟩ := HI0.out
   have hcz8_0 := cellS102_0 HGz8
   have hcz8_1 := cellS102_1 HGz8
   have hcz8_2 := cellS102_2 HGz8
   have hfz8_0 := blk_frozen HGz8 0
   have hfz8_1 := blk_frozen HGz8 1
   have hfz8_2 := blk_frozen HGz8 2
   clear HGz8 hgz8
   try go_wp2_with (first | (go_at_call 57; go_in) | ((try simp only [Exit.inBlock, Exit.then]); refine bodyPost_end (results_none rfl _ _ _) rfl ?_; simp only []; go_at_K))
   go_ret
   exact ⟨by first | rfl | (simp [errW_none, errW_some] <;> rfl) | (simp [*, errW_none, errW_some] <;> rfl), by repeat (first | (with_reducible first | exact HI0.out | apply IsS102.alloc | apply IsS102.drewN | apply IsS102.drew | apply IsS102.set_0 | apply IsS102.set_1 | apply IsS102.set_2) | exact HI0.out), by repeat (first | (with_reducible first | exact HB.out | apply below_alloc | apply pw_below_drewN | apply below_drew1 | refine below_set ?_ (IsS102.ge HI0.out)) | exact HB.out), by repeat (first | (with_reducible first | exact HK.out | apply KeepBut.set_ | apply keep_drewN | apply keep_drew | apply keep_alloc) | exact HK.out)⟩
  ·replace c4 := Bool.eq_false_iff.mpr c4
   subst c4
   have H1 : (some ((⟨#[]⟩ : ByteArray), s0_0, s0_1, 2)) = some (r1, r2, r3, r4) := by rw [if_neg (show ¬ (false = true) by decide)] at H; exact H
   clear H
   have H := H1
   clear H1
   simp only [Option.some.injEq, Prod.mk.injEq] at H
   obtain ⟨rfl, rfl, rfl, rfl⟩ := H
   obtain ⟨HGz9, hgz9⟩ := HI0.out
   have hcz9_0 := cellS102_0 HGz9
   have hcz9_1 := cellS102_1 HGz9
   have hcz9_2 := cellS102_2 HGz9
   have hfz9_0 := blk_frozen HGz9 0
   have hfz9_1 := blk_frozen HGz9 1
   have hfz9_2 := blk_frozen HGz9 2
   clear HGz9 hgz9
   go_enter Tryd.func33, Tryd.ntmps33
   try go_wp2_with (first | (go_at_call 57; go_in) | ((try simp only [Exit.inBlock, Exit.then]); refine bodyPost_end (results_none rfl _ _ _) rfl ?_; simp only []; go_at_K))
   have n0_ := Aside0.mk (IsS102.drew HI0.out)
   have n1_ := Aside0.mk (keep_drew HK.out)
   have n2_ := Aside0.mk (below_drew1 HB.out)
   clear HI0
   clear HK
   clear HB
   have HI0 := n0_
   have HK := n1_
   have HB := n2_
   clear n0_ n1_ n2_
   refine start_ (n := 17) (S := fun w' => w'.cell? ⟨g, 0, none⟩ = some (.string s0_0) ∧ w'.cell? ⟨g, 1, none⟩ = some (.int .i64 s0_1) ∧ w'.cell? ⟨g, 2, none⟩ = some (.int .i64 s0_2)) (ds := []) #[Yn, Yn, Yn, Yn, Yn, Yn, Yn, Yn, Yn, Yn, Yn, Yn, Yn, Yn, Yn, Yn, Yn] (by kernel_rfl) rfl rfl ⟨(blk_cell (Aside0.mk HI0.out.1).out 0).trans rfl, (blk_cell (Aside0.mk HI0.out.1).out 1).trans rfl, (blk_cell (Aside0.mk HI0.out.1).out 2).trans rfl⟩ (fun hHeld => ?_); refine with_tabW codec_Reader_Text.tab57004 codec_Reader_Text.bits57004 (fun HT_ HW_ => ?_)
   generalize w.drew = w10 at HI0 HK HB hHeld ⊢
   refine P3 HT_.out 0 16 ?_ (Bz 17 0x1) ?_ ?_ ?_ ?_
   rotate_left
   ·intro w'
    go_simp
    with_reducible rfl
   rotate_left
   ·simp only [Act.put, Z1, Z2, Z3, i64_w, i32_w]
    rfl
   refine P3 HT_.out 1 17 ?_ (Bz 17 0x3) ?_ ?_ ?_ ?_
   rotate_left
   ·intro w'
    go_simp
    with_reducible rfl
   rotate_left
   ·simp only [Act.put, Z1, Z2, Z3, i64_w, i32_w]
    rfl
   refine P3 HT_.out 2 18 ?_ (Bz 17 0x7) ?_ ?_ ?_ ?_
   rotate_left
   ·intro w'
    go_simp
    with_reducible rfl
   rotate_left
   ·simp only [Act.put, Z1, Z2, Z3, i64_w, i32_w]
    rfl
   refine P3 HT_.out 3 19 ?_ (Bz 17 0xf) ?_ ?_ ?_ ?_
   rotate_left
   ·intro w'
    go_simp
    with_reducible rfl
   rotate_left
   ·simp only [Act.put, Z1, Z2, Z3, i64_w, i32_w]
    rfl
   refine P3 HT_.out 5 21 ?_ (Bz 17 0x2f) ?_ ?_ ?_ ?_
   rotate_left
   ·intro w'
    go_simp
    with_reducible rfl
   rotate_left
   ·simp only [Act.put, Z1, Z2, Z3, i64_w, i32_w]
    rfl
   refine P3 HT_.out 6 22 ?_ (Bz 17 0x6f) ?_ ?_ ?_ ?_
   rotate_left
   ·intro w'
    go_simp
    with_reducible rfl
   rotate_left
   ·simp only [Act.put, Z1, Z2, Z3, i64_w, i32_w]
    rfl
   refine P3 HT_.out 7 23 ?_ (Bz 17 0xef) ?_ ?_ ?_ ?_
   rotate_left
   ·intro w'
    go_simp
    with_reducible rfl
   rotate_left
   ·simp only [Act.put, Z1, Z2, Z3, i64_w, i32_w]
    rfl
   refine P6 HT_.out HW_.out 4 20 ?_ (Bz 17 0xff) ?_ hHeld ?_ ?_ ?_
   rotate_left
   ·rintro w' ⟨s0, s1, s2⟩
    go_simp
    with_reducible rfl
   rotate_left
   ·simp only [Act.put, Z1, Z2, Z3, i64_w, i32_w]
    rfl
   refine P6 HT_.out HW_.out 8 24 ?_ (Bz 17 0x1ff) ?_ hHeld ?_ ?_ ?_
   rotate_left
   ·rintro w' ⟨s0, s1, s2⟩
    go_simp
    with_reducible rfl
   rotate_left
   ·simp only [Act.put, Z1, Z2, Z3, i64_w, i32_w]
    rfl
   refine one_ (i := 9) (N := some 25) #[Y, Y, Y, Y, Y, Y, Y, Y, Y, Y, Yn, Yn, Yn, Yn, Yn, Yn, Yn] rfl rfl (one_of HT_.out (by kernel_rfl)) (by decide) (fun K hK => ?_)
   refine goesT_ Tryd.func58 (by kernel_rfl) rfl #[.string s0_0, .int .i64 s0_1] (by rfl) rfl rfl rfl (by (try simp only [List.map_toArray, List.map_cons, List.map_nil]); first | done | rfl | (simp only [List.length_drop, List.length_take]; rfl)) ?_
   with_reducible refine (codec_text.calls k s0_0 s0_1 t130 t131 false _ ?side99  A3.out).mono ?_
   (case side99 => first | exact HG.out | exact Glob.below HG.out (by repeat (first | (with_reducible first | exact HB.out | apply below_alloc | apply pw_below_drewN | apply below_drew1 | refine below_set ?_ (IsS102.ge HI0.out)) | exact HB.out)))
   rintro e w11 ⟨rfl, hb⟩
   refine ⟨_, rfl, ?_⟩
   have n0_ := Aside0.mk (IsS102.below (by repeat (first | (with_reducible first | exact HI0.out | apply IsS102.alloc | apply IsS102.drewN | apply IsS102.drew | apply IsS102.set_0 | apply IsS102.set_1 | apply IsS102.set_2) | exact HI0.out)) hb)
   have n1_ := Aside0.mk (KeepBut.trans (by repeat (first | (with_reducible first | exact HK.out | apply KeepBut.set_ | apply keep_drewN | apply keep_drew | apply keep_alloc) | exact HK.out)) (KeepBut.of_below hb g none) (.inl rfl))
   have n2_ := Aside0.mk (below_step (by repeat (first | (with_reducible first | exact HB.out | apply below_alloc | apply pw_below_drewN | apply below_drew1 | refine below_set ?_ (IsS102.ge HI0.out)) | exact HB.out)) hb)
   clear HI0
   clear HK
   clear HB
   have HI0 := n0_
   have HK := n1_
   have HB := n2_
   clear n0_ n1_ n2_
   (try clear hb)
   (try clear hb2)
   (try clear hk)
   (try clear hi)
   refine hK.out _ _ ⟨(blk_cell (Aside0.mk HI0.out.1).out 0).trans rfl, (blk_cell (Aside0.mk HI0.out.1).out 1).trans rfl, (blk_cell (Aside0.mk HI0.out.1).out 2).trans rfl⟩ (fun hHeld => ?_)
   clear hK K
   refine norm_ (a' := ?_) ?_ ?_
   rotate_left
   ·show Act.put _ (some 25) _ = _
    simp only [Act.put, Z1, Z2, Z3, i64_w, i32_w]
    rfl
   refine P3 HT_.out 10 15 ?_ (Bz 17 0x7ff) ?_ ?_ ?_ ?_
   rotate_left
   ·intro w'
    go_simp
    with_reducible rfl
   rotate_left
   ·simp only [Act.put, Z1, Z2, Z3, i64_w, i32_w]
    rfl
   refine P3 HT_.out 11 26 ?_ (Bz 17 0xfff) ?_ ?_ ?_ ?_
   rotate_left
   ·intro w'
    go_simp
    with_reducible rfl
   rotate_left
   ·simp only [Act.put, Z1, Z2, Z3, i64_w, i32_w]
    rfl
   refine P3 HT_.out 12 27 ?_ (Bz 17 0x1fff) ?_ ?_ ?_ ?_
   rotate_left
   ·intro w'
    go_simp
    with_reducible rfl
   rotate_left
   ·simp only [Act.put, Z1, Z2, Z3, i64_w, i32_w]
    rfl
   refine P3 HT_.out 13 28 ?_ (Bz 17 0x3fff) ?_ ?_ ?_ ?_
   rotate_left
   ·intro w'
    go_simp
    with_reducible rfl
   rotate_left
   ·simp only [Act.put, Z1, Z2, Z3, i64_w, i32_w]
    rfl
   refine P3 HT_.out 14 6 ?_ (Bz 17 0x7fff) ?_ ?_ ?_ ?_
   rotate_left
   ·intro w'
    go_simp
    with_reducible rfl
   rotate_left
   ·simp only [Act.put, Z1, Z2, Z3, i64_w, i32_w]
    rfl
   refine P3 HT_.out 15 7 ?_ (Bz 17 0xffff) ?_ ?_ ?_ ?_
   rotate_left
   ·intro w'
    go_simp
    with_reducible rfl
   rotate_left
   ·simp only [Act.put, Z1, Z2, Z3, i64_w, i32_w]
    rfl
   refine P3 HT_.out 16 8 ?_ (Bz 17 0x1ffff) ?_ ?_ ?_ ?_
   rotate_left
   ·intro w'
    go_simp
    with_reducible rfl
   rotate_left
   ·simp only [Act.put, Z1, Z2, Z3, i64_w, i32_w]
    rfl
   refine done_ (done_of HT_.out (by kernel_rfl)) ?_
   obtain ⟨HGz12, hgz12⟩ := HI0.out
   have hcz12_0 := cellS102_0 HGz12
   have hcz12_1 := cellS102_1 HGz12
   have hcz12_2 := cellS102_2 HGz12
   have hfz12_0 := blk_frozen HGz12 0
   have hfz12_1 := blk_frozen HGz12 1
   have hfz12_2 := blk_frozen HGz12 2
   clear HGz12 hgz12
   try go_wp2_with (first | (go_at_call 57; go_in) | ((try simp only [Exit.inBlock, Exit.then]); refine bodyPost_end (results_none rfl _ _ _) rfl ?_; simp only []; go_at_K))
   go_ret
   exact ⟨by first | rfl | (simp [errW_none, errW_some] <;> rfl) | (simp [*, errW_none, errW_some] <;> rfl), by repeat (first | (with_reducible first | exact HI0.out | apply IsS102.alloc | apply IsS102.drewN | apply IsS102.drew | apply IsS102.set_0 | apply IsS102.set_1 | apply IsS102.set_2) | exact HI0.out), by repeat (first | (with_reducible first | exact HB.out | apply below_alloc | apply pw_below_drewN | apply below_drew1 | refine below_set ?_ (IsS102.ge HI0.out)) | exact HB.out), by repeat (first | (with_reducible first | exact HK.out | apply KeepBut.set_ | apply keep_drewN | apply keep_drew | apply keep_alloc) | exact HK.out)⟩
 ·rw [if_neg c2] at H
  have c2b0 : (s0_2 == 0) = false := beq_eq_false_iff_ne.mpr c2
  have c2b1 : (s0_2 != 0) = true := bne_iff_ne.mpr c2
  simp only [Option.some.injEq, Prod.mk.injEq] at H
  obtain ⟨rfl, rfl, rfl, rfl⟩ := H
  obtain ⟨HGz13, hgz13⟩ := HI0.out
  have hcz13_0 := cellS102_0 HGz13
  have hcz13_1 := cellS102_1 HGz13
  have hcz13_2 := cellS102_2 HGz13
  have hfz13_0 := blk_frozen HGz13 0
  have hfz13_1 := blk_frozen HGz13 1
  have hfz13_2 := blk_frozen HGz13 2
  clear HGz13 hgz13
  go_enter Tryd.func33, Tryd.ntmps33
  go_wp2_with (first | (go_at_call 57; go_in) | ((try simp only [Exit.inBlock, Exit.then]); refine bodyPost_end (results_none rfl _ _ _) rfl ?_; simp only []; go_at_K))
  go_ret
  exact ⟨by first | rfl | (simp [errW_none, errW_some] <;> rfl) | (simp [*, errW_none, errW_some] <;> rfl), by repeat (first | (with_reducible first | exact HI0.out | apply IsS102.alloc | apply IsS102.drewN | apply IsS102.drew | apply IsS102.set_0 | apply IsS102.set_1 | apply IsS102.set_2) | exact HI0.out), by repeat (first | (with_reducible first | exact HB.out | apply below_alloc | apply pw_below_drewN | apply below_drew1 | refine below_set ?_ (IsS102.ge HI0.out)) | exact HB.out), by repeat (first | (with_reducible first | exact HK.out | apply KeepBut.set_ | apply keep_drewN | apply keep_drew | apply keep_alloc) | exact HK.out)⟩
end Go.Proofs.YtbccjcdmpiolpaaDoor.T
end
section
namespace Go.Proofs.YtbccjcdmpiolpaaDoor.T
open Go.RowKit Go.Proofs.YtbccjcdmpiolpaaDoorW.PrintWords Go.Proofs.YtbccjcdmpiolpaaDoorW.PrintLast Go.Proofs.YtbccjcdmpiolpaaDoorW.PrintMore
attribute [local go_sem] max2_int min2_int max_two min_two max_three min_three max_four min_four
set_option linter.unusedVariables false
set_option linter.unusedSimpArgs false
def codec_Reader_End.f (s0_0 : ByteArray) (s0_1 : Int) (s0_2 : Int) : Option (Int × ByteArray × Int × Int) := if s0_2 = 0 then (if s0_1 = (s0_0.size : Int) then (some (s0_2, s0_0, s0_1, s0_2)) else (some (2, s0_0, s0_1, s0_2))) else (some (s0_2, s0_0, s0_1, s0_2))
set_option maxHeartbeats 8000000 in
set_option maxRecDepth 100000 in
theorem codec_Reader_End.calls (g : Nat) (s0_0 : ByteArray) (s0_1 : Int) (s0_2 : Int) (r1 : Int) (r2 : ByteArray) (r3 : Int) (r4 : Int) (w0 w : World) (hG : Glob w0) (hI : IsS102 w0 w g s0_0 s0_1 s0_2) (hB : Below w0.heap.size w0 w) (h : codec_Reader_End.f s0_0 s0_1 s0_2 = some (r1, r2, r3, r4)) :
  Calls Tryd.prog 34 #[.pointer (some ⟨g, 0, none⟩)] w fun e w' => e = .returned (.int .i64 r1) ∧ IsS102 w0 w' g r2 r3 r4 ∧ Below w0.heap.size w0 w' ∧ KeepBut w w' g none := by
 have HG := Aside0.mk hG
 clear hG
 have HI0 := Aside0.mk hI
 have HK := Aside0.mk (KeepBut.refl w g none)
 have HL := Aside0.mk hB.size
 clear hI
 have HW0 := Aside0.mk hB.size
 have HB := Aside0.mk hB
 clear hB
 have H : (if s0_2 = 0 then (if s0_1 = (s0_0.size : Int) then (some (s0_2, s0_0, s0_1, s0_2)) else (some (2, s0_0, s0_1, s0_2))) else (some (s0_2, s0_0, s0_1, s0_2))) = some (r1, r2, r3, r4) := h
 clear h
 by_cases c2 : s0_2 = 0
 ·rw [if_pos c2] at H
  have c2b0 : (s0_2 == 0) = true := beq_iff_eq.mpr c2
  have c2b1 : (s0_2 != 0) = false := bne_eq_false_iff_eq.mpr c2
  clear c2
  by_cases c3 : s0_1 = (s0_0.size : Int)
  ·rw [if_pos c3] at H
   have c3b0 : (s0_1 == (s0_0.size : Int)) = true := beq_iff_eq.mpr c3
   have c3b1 : (s0_1 != (s0_0.size : Int)) = false := bne_eq_false_iff_eq.mpr c3
   clear c3
   simp only [Option.some.injEq, Prod.mk.injEq] at H
   obtain ⟨rfl, rfl, rfl, rfl⟩ := H
   obtain ⟨HGz4, hgz4⟩ := HI0.out
   have hcz4_0 := cellS102_0 HGz4
   have hcz4_1 := cellS102_1 HGz4
   have hcz4_2 := cellS102_2 HGz4
   have hfz4_0 := blk_frozen HGz4 0
   have hfz4_1 := blk_frozen HGz4 1
   have hfz4_2 := blk_frozen HGz4 2
   clear HGz4 hgz4
   go_enter Tryd.func34, Tryd.ntmps34
   go_wp2
   repeat (go_quiet (fail); try go_wp2)
   go_ret
   exact ⟨by first | rfl | (simp [errW_none, errW_some] <;> rfl) | (simp [*, errW_none, errW_some] <;> rfl), by repeat (first | (with_reducible first | exact HI0.out | apply IsS102.alloc | apply IsS102.drewN | apply IsS102.drew | apply IsS102.set_0 | apply IsS102.set_1 | apply IsS102.set_2) | exact HI0.out), by repeat (first | (with_reducible first | exact HB.out | apply below_alloc | apply pw_below_drewN | apply below_drew1 | refine below_set ?_ (IsS102.ge HI0.out)) | exact HB.out), by repeat (first | (with_reducible first | exact HK.out | apply KeepBut.set_ | apply keep_drewN | apply keep_drew | apply keep_alloc) | exact HK.out)⟩
  ·rw [if_neg c3] at H
   have c3b0 : (s0_1 == (s0_0.size : Int)) = false := beq_eq_false_iff_ne.mpr c3
   have c3b1 : (s0_1 != (s0_0.size : Int)) = true := bne_iff_ne.mpr c3
   simp only [Option.some.injEq, Prod.mk.injEq] at H
   obtain ⟨rfl, rfl, rfl, rfl⟩ := H
   obtain ⟨HGz5, hgz5⟩ := HI0.out
   have hcz5_0 := cellS102_0 HGz5
   have hcz5_1 := cellS102_1 HGz5
   have hcz5_2 := cellS102_2 HGz5
   have hfz5_0 := blk_frozen HGz5 0
   have hfz5_1 := blk_frozen HGz5 1
   have hfz5_2 := blk_frozen HGz5 2
   clear HGz5 hgz5
   go_enter Tryd.func34, Tryd.ntmps34
   go_wp2
   repeat (go_quiet (fail); try go_wp2)
   go_ret
   exact ⟨by first | rfl | (simp [errW_none, errW_some] <;> rfl) | (simp [*, errW_none, errW_some] <;> rfl), by repeat (first | (with_reducible first | exact HI0.out | apply IsS102.alloc | apply IsS102.drewN | apply IsS102.drew | apply IsS102.set_0 | apply IsS102.set_1 | apply IsS102.set_2) | exact HI0.out), by repeat (first | (with_reducible first | exact HB.out | apply below_alloc | apply pw_below_drewN | apply below_drew1 | refine below_set ?_ (IsS102.ge HI0.out)) | exact HB.out), by repeat (first | (with_reducible first | exact HK.out | apply KeepBut.set_ | apply keep_drewN | apply keep_drew | apply keep_alloc) | exact HK.out)⟩
 ·rw [if_neg c2] at H
  have c2b0 : (s0_2 == 0) = false := beq_eq_false_iff_ne.mpr c2
  have c2b1 : (s0_2 != 0) = true := bne_iff_ne.mpr c2
  simp only [Option.some.injEq, Prod.mk.injEq] at H
  obtain ⟨rfl, rfl, rfl, rfl⟩ := H
  obtain ⟨HGz6, hgz6⟩ := HI0.out
  have hcz6_0 := cellS102_0 HGz6
  have hcz6_1 := cellS102_1 HGz6
  have hcz6_2 := cellS102_2 HGz6
  have hfz6_0 := blk_frozen HGz6 0
  have hfz6_1 := blk_frozen HGz6 1
  have hfz6_2 := blk_frozen HGz6 2
  clear HGz6 hgz6
  go_enter Tryd.func34, Tryd.ntmps34
  go_wp2
  repeat (go_quiet (fail); try go_wp2)
  go_ret
  exact ⟨by first | rfl | (simp [errW_none, errW_some] <;> rfl) | (simp [*, errW_none, errW_some] <;> rfl), by repeat (first | (with_reducible first | exact HI0.out | apply IsS102.alloc | apply IsS102.drewN | apply IsS102.drew | apply IsS102.set_0 | apply IsS102.set_1 | apply IsS102.set_2) | exact HI0.out), by repeat (first | (with_reducible first | exact HB.out | apply below_alloc | apply pw_below_drewN | apply below_drew1 | refine below_set ?_ (IsS102.ge HI0.out)) | exact HB.out), by repeat (first | (with_reducible first | exact HK.out | apply KeepBut.set_ | apply keep_drewN | apply keep_drew | apply keep_alloc) | exact HK.out)⟩
end Go.Proofs.YtbccjcdmpiolpaaDoor.T
end
section
namespace Go.Proofs.YtbccjcdmpiolpaaDoor.T
open Go.RowKit Go.Proofs.YtbccjcdmpiolpaaDoorW.PrintWords Go.Proofs.YtbccjcdmpiolpaaDoorW.PrintLast Go.Proofs.YtbccjcdmpiolpaaDoorW.PrintMore
attribute [local go_sem] max2_int min2_int max_two min_two max_three min_three max_four min_four
set_option linter.unusedVariables false
set_option linter.unusedSimpArgs false
def codec_Reader_Unsigned_1.f (k : Nat) (a0 : ByteArray) (a1 : Int) : Option (Int × Int × Bool) := (codec_raw.f k a0 a1 3).bind fun bt133 => (some (bt133.1, bt133.2.1, bt133.2.2))
set_option maxHeartbeats 8000000 in
set_option maxRecDepth 100000 in
theorem codec_Reader_Unsigned_1.calls (k : Nat) (a0 : ByteArray) (a1 : Int) (r1 : Int) (r2 : Int) (r3 : Bool) (w : World) (hG : Glob w) (h : codec_Reader_Unsigned_1.f k a0 a1 = some (r1, r2, r3)) :
  Calls Tryd.prog 73 #[.string a0, .int .i64 a1] w fun e w' => e = .returned (.tuple #[.int .u64 r1, .int .i64 r2, .bool r3]) ∧ Below w.heap.size w w' := by
 have HG := Aside0.mk hG
 clear hG
 have HB := Aside0.mk (Below.refl w.heap.size w)
 have H : ((codec_raw.f k a0 a1 3).bind fun bt133 => (some (bt133.1, bt133.2.1, bt133.2.2))) = some (r1, r2, r3) := h
 clear h
 replace H := Option.bind_eq_some_iff.mp H
 obtain ⟨⟨t133, t134, t135⟩, A30, H⟩ := H
 replace H : (some (t133, t134, t135)) = some (r1, r2, r3) := H
 have A3 := Aside0.mk A30
 clear A30
 simp only [Option.some.injEq, Prod.mk.injEq] at H
 obtain ⟨rfl, rfl, rfl⟩ := H
 go_enter Tryd.func73, Tryd.ntmps73
 go_wp2_with (first | ((with_reducible refine gate_callee (f := 64) rfl ?_); refine goesL_ (some 9) rfl rfl Tryd.func64 (by kernel_rfl) rfl #[.string a0, .int .i64 a1, .int .i64 3] rfl (by (try simp only [List.map_toArray, List.map_cons, List.map_nil]); first | done | rfl | (simp only [List.length_drop, List.length_take]; rfl)) ?_; (with_reducible refine (codec_raw.calls k a0 a1 3 t133 t134 t135 _ ?side99  A3.out).mono ?_); (case side99 => first | exact HG.out | exact Glob.below HG.out (by repeat (first | (with_reducible first | exact HB.out | apply below_alloc | apply pw_below_drewN | apply below_drew1) | exact HB.out))); rintro e w4 ⟨rfl, hb⟩; refine ⟨_, rfl, ?_⟩; have n0_ := Aside0.mk (below_step (by repeat (first | (with_reducible first | exact HB.out | apply below_alloc | apply pw_below_drewN | apply below_drew1) | exact HB.out)) hb); clear HB; have HB := n0_; clear n0_; (try clear hb); (try clear hb2); (try clear hk); (try clear hi)))
 go_ret3
 exact ⟨by first | rfl | (simp [errW_none, errW_some] <;> rfl) | (simp [*, errW_none, errW_some] <;> rfl), by repeat (first | (with_reducible first | exact HB.out | apply below_alloc | apply pw_below_drewN | apply below_drew1) | exact HB.out)⟩
end Go.Proofs.YtbccjcdmpiolpaaDoor.T
end
