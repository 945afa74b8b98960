/- CodecSkipsCard: one part of the proof that the law answers true for every input, and that its arguments read afterwards as before. No condition. -/
import Derived.Test.YtndeikikeeeigaaDoorCSkips1
import Derived.ProofKit
import Derived.Deep.Slices
import Derived.SizedLaws
import Derived.OpenShut
import Derived.DataReads
import Derived.SevenTiedAt
import Derived.WalkKit
import Derived.ShutString
import Derived.ChangeOld
import Derived.Below
import Derived.Test.YtndeikikeeeigaaDoorCards
import Derived.Test.YtndeikikeeeigaaDoorRows
import Derived.Test.YtndeikikeeeigaaDoorTie
section
namespace Go.Proofs.YtndeikikeeeigaaDoor.Q
open Go.RowKit Go.Proofs.YtndeikikeeeigaaDoorW.PrintWords Go.Proofs.YtndeikikeeeigaaDoorW.PrintLast Go.Proofs.YtndeikikeeeigaaDoorW.PrintMore
attribute [local go_sem] max2_int min2_int max_two min_two max_three min_three max_four min_four
set_option linter.unusedVariables false
set_option linter.unusedSimpArgs false
def plenumref02_Unsigned.l0 : Nat → Int → List Int → Option (ByteArray)
  | 0, _, _ => none
  | k + 1, x0, x3 => if x0 > 255 then ((some (([(IntKind.u64.wrap (Int.tdiv x0 256)) % 256] : List Int) : List Int)).bind fun y189 => (if y189.length + x3.length < 140737488355328 then (plenumref02_Unsigned.l0 k (IntKind.u64.wrap (Int.tdiv x0 256)) (y189 ++ x3)) else (none))) else ((some (([(wrap64 (16 + (x3.length : Int))) % 256] : List Int) : List Int)).bind fun y195 => (if y195.length + x3.length < 140737488355328 then (some (strOfNums (y195 ++ x3))) else (none)))
def plenumref02_Unsigned.f (k : Nat) (a0 : Int) : Option (ByteArray) := plenumref02_Unsigned.l0 k a0 (([(a0) % 256] : List Int))
set_option maxHeartbeats 8000000 in
set_option maxRecDepth 100000 in
theorem plenumref02_Unsigned.calls (k : Nat) (a0 : Int) (r : ByteArray) (w : World) (hG : Glob w) (h : plenumref02_Unsigned.f k a0 = some r) :
    Calls Tryd.prog 44 #[.int .u64 a0] w fun e w' => e = .returned (.string r) ∧ Below w.heap.size w w' := by
  have HG := Aside0.mk hG
  clear hG
  have HB := Aside0.mk (Below.refl w.heap.size w)
  have H : (plenumref02_Unsigned.l0 k a0 (([(a0) % 256] : List Int))) = some r := h
  clear h
  obtain ⟨y186, hy186⟩ : ∃ y_ : List Int, y_ = (([(a0) % 256] : List Int)) := ⟨_, rfl⟩
  replace H : (plenumref02_Unsigned.l0 k a0 y186) = some r := by first | (rw [hy186]; with_reducible exact H) | (have H2_ := (Option.bind_some _ _).symm.trans H; rw [hy186]; with_reducible exact H2_) | (have H2_ := (Option.bind_some _ _).symm.trans H; with_reducible exact H2_) | with_reducible exact H | (rw [hy186]; exact H) | exact H
  have Ny186 := Aside0.mk hy186
  clear hy186
  have H' := Aside0.mk H
  clear H
  go_enter Tryd.func44, Tryd.ntmps44
  go_wp2_with (first | ((with_reducible refine gate_dst (N := 6) rfl ?_); refine Kd.R_lit (Kd.int .u8) _ 5 ?hg (N := 6) ?hd (xs := ([(a0) % 256] : List Int)) (inner := [.int .u8 ((a0) % 256)]) (ok := fun _ => True) (okp := fun _ => True) ?hr ?hp (fun _ hk => hk) trivial (Below.refl _ _) (Nat.le_refl _) (by simp) ?_; (case hd => rfl); (case hg => rfl); (case hr => first | (go_simp; done) | (go_simp; rfl)); (case hp => exact (Reps.one (show Kd.M (Kd.int .u8) _ _ _ ((a0) % 256) [.int .u8 ((a0) % 256)] from rfl) (Reps.none _ _))); intro v187 w2 ho3 hb hg_ hnew_; clear hg_ hnew_; (first | rw [← Ny186.out] at ho3 | (simp only [Int.reduceToNat] at ho3; rw [← Ny186.out] at ho3)); have n0_ := Aside0.mk (Kd.R_lower ho3 (below_size (by repeat (first | (with_reducible first | exact HB.out | apply below_alloc | apply pw_below_drewN | apply below_drew1) | exact HB.out)))); have n1_ := Aside0.mk (below_step (by repeat (first | (with_reducible first | exact HB.out | apply below_alloc | apply pw_below_drewN | apply below_drew1) | exact HB.out)) hb); clear HB; have HO188 := n0_; have HB := n1_; clear n0_ n1_; clear hb ho3))
  go_loopg [0, 3] k (fun kq v0 v3 w' => ∃ (x0_1 : Int) (x3_1 : List Int), v0 = .int .u64 x0_1 ∧ Aside0 (plenumref02_Unsigned.l0 kq x0_1 x3_1 = some r) ∧ Aside0 (kq ≤ k) ∧ Aside0 (Kd.R (Kd.int .u8) 5 w' w.heap.size (fun _ => True) v3 x3_1) ∧ Aside0 (Below w.heap.size w w'))
  case atStart => exact ⟨(a0), (y186), (by first | rfl | (simp; done) | (simp [*]; done)), H', ⟨Nat.le_refl _⟩, ⟨by (with_reducible repeat (first | apply Kd.R_alloc | apply Kd.R_drewN | apply Kd.R_drew)); exact HO188.out⟩, ⟨by repeat (first | (with_reducible first | exact HB.out | apply below_alloc | apply pw_below_drewN | apply below_drew1) | exact HB.out)⟩⟩
  case round =>
    clear H'
    try clear p2
    obtain ⟨x0_1, x3_1, rfl, HA, HK1, HO_3, HB⟩ := hrel
    cases gk with
    | zero => exact absurd HA.out (by simp [plenumref02_Unsigned.l0])
    | succ k1 =>
      have H := HA.out
      clear HA
      simp only [plenumref02_Unsigned.l0] at H
      by_cases c4 : x0_1 > 255
      · rw [if_pos c4] at H
        have c4b0 : decide (255 < x0_1) = true := decide_eq_true c4
        clear c4
        obtain ⟨y189, hy189⟩ : ∃ y_ : List Int, y_ = (([(IntKind.u64.wrap (Int.tdiv x0_1 256)) % 256] : List Int)) := ⟨_, rfl⟩
        replace H : (if y189.length + x3_1.length < 140737488355328 then (plenumref02_Unsigned.l0 k1 (IntKind.u64.wrap (Int.tdiv x0_1 256)) (y189 ++ x3_1)) else (none)) = some r := by first | (rw [hy189]; with_reducible exact H) | (have H2_ := (Option.bind_some _ _).symm.trans H; rw [hy189]; with_reducible exact H2_) | (have H2_ := (Option.bind_some _ _).symm.trans H; with_reducible exact H2_) | with_reducible exact H | (rw [hy189]; exact H) | exact H
        have Ny189 := Aside0.mk hy189
        clear hy189
        by_cases c5 : y189.length + x3_1.length < 140737488355328
        · rw [if_pos c5] at H
          have LMc5 := Aside0.mk c5
          clear c5
          obtain ⟨y192, hy192⟩ : ∃ y_ : List Int, y_ = (y189 ++ x3_1) := ⟨_, rfl⟩
          replace H : (plenumref02_Unsigned.l0 k1 (IntKind.u64.wrap (Int.tdiv x0_1 256)) y192) = some r := by first | (rw [hy192]; with_reducible exact H) | (have H2_ := (Option.bind_some _ _).symm.trans H; rw [hy192]; with_reducible exact H2_) | (have H2_ := (Option.bind_some _ _).symm.trans H; with_reducible exact H2_) | with_reducible exact H | (rw [hy192]; exact H) | exact H
          have Ny192 := Aside0.mk hy192
          clear hy192
          have H' := Aside0.mk H
          clear H
          go_wp2_with (first | ((with_reducible refine gate_dst (N := 13) rfl ?_); refine Kd.R_lit (Kd.int .u8) _ 5 ?hg (N := 13) ?hd (xs := ([(IntKind.u64.wrap (Int.tdiv x0_1 256)) % 256] : List Int)) (inner := [.int .u8 ((IntKind.u64.wrap (Int.tdiv x0_1 256)) % 256)]) (ok := fun _ => True) (okp := fun _ => True) ?hr ?hp (fun _ hk => hk) trivial (Below.refl _ _) (Nat.le_refl _) (by simp) ?_; (case hd => rfl); (case hg => rfl); (case hr => first | (go_simp; done) | (go_simp; rfl)); (case hp => exact (Reps.one (show Kd.M (Kd.int .u8) _ _ _ ((IntKind.u64.wrap (Int.tdiv x0_1 256)) % 256) [.int .u8 ((IntKind.u64.wrap (Int.tdiv x0_1 256)) % 256)] from rfl) (Reps.none _ _))); intro v190 w6 ho7 hb hg_ hnew_; clear hg_ hnew_; (first | rw [← Ny189.out] at ho7 | (simp only [Int.reduceToNat] at ho7; rw [← Ny189.out] at ho7)); have n0_ := Aside0.mk (Kd.R_elder' (by (with_reducible repeat (first | apply Kd.R_alloc | apply Kd.R_drewN | apply Kd.R_drew)); exact HO_3.out) (Kd.R_base ho7) hb); have n1_ := Aside0.mk (Kd.R_lower (Kd.R_new' ho7 (Kd.R_lt (by (with_reducible repeat (first | apply Kd.R_alloc | apply Kd.R_drewN | apply Kd.R_drew)); exact HO_3.out))) (below_size (by repeat (first | (with_reducible first | exact HB.out | apply below_alloc | apply pw_below_drewN | apply below_drew1) | exact HB.out)))); have n2_ := Aside0.mk (below_step (by repeat (first | (with_reducible first | exact HB.out | apply below_alloc | apply pw_below_drewN | apply below_drew1) | exact HB.out)) hb); clear HO_3; clear HB; have HO_3 := n0_; have HO191 := n1_; have HB := n2_; clear n0_ n1_ n2_; clear hb ho7; obtain ⟨Ao9, co9, eo9⟩ := Kd.R_slice HO_3.out; subst eo9) | ((with_reducible refine gate_builtin (b := .append) (xs := #[.tmp 13, .tmp 14]) rfl ?_); at_builtin; refine Kd.R_append_rows (Kd.int .u8) (w0 := w) w.heap.size rfl (.tmp 13) (.tmp 14) 28 5 (.int .u8 0) 1 rfl Tryd.underlying28 info5 rfl (by decide) (by omega) v190 y189 x3_1 _ _ _ (fun k_ => some k_ ≠ (.slice Ao9 x3_1.length co9 : Value).ownBlock) (fun _ => False) rfl rfl ?aO ?aR (fun _ _ h => h) (fun _ h => h.elim) ?aF ?aB ?aS ?aL ?_; (case aR => repeat (first | exact (Kd.R_reads' HO_3.out).2.2 | (with_reducible refine Kd.C_alloc ?_ _) | (with_reducible refine Kd.C_drewN ?_ _) | (with_reducible refine Kd.C_drew ?_))); (case aB => exact (by repeat (first | (with_reducible first | exact HB.out | apply below_alloc | apply pw_below_drewN | apply below_drew1) | exact HB.out))); (case aF => exact (fun k_ hk => Kd.fresh' (Kd.R_lt (by (with_reducible repeat (first | apply Kd.R_alloc | apply Kd.R_drewN | apply Kd.R_drew)); exact HO_3.out)) k_ hk)); (case aO => exact (by (with_reducible repeat (first | apply Kd.R_alloc | apply Kd.R_drewN | apply Kd.R_drew)); exact Kd.R_mono HO191.out (fun _ hk => hk.2))); (case aS => exact (below_size (by repeat (first | (with_reducible first | exact HB.out | apply below_alloc | apply pw_below_drewN | apply below_drew1) | exact HB.out)))); (case aL => have := LMc5.out; first | omega | (simp only [ByteArray.size, List.size_toArray, List.length_cons, List.length_nil] at this ⊢; omega)); intro v193 w8 ho hb hg hat; rw [← Ny192.out] at ho; have n0_ := Aside0.mk (Kd.R_after (ok := (fun _ => True)) (by (with_reducible repeat (first | apply Kd.R_alloc | apply Kd.R_drewN | apply Kd.R_drew)); exact HO_3.out) hg hat); have n1_ := Aside0.mk (hb); have n2_ := Aside0.mk (ho); clear HO_3; clear HB; clear HO191; have HO_3 := n0_; have HB := n1_; have HO194 := n2_; clear n0_ n1_ n2_; clear ho hb hg hat))
          go_roundg k1
          case measure => have := HK1.out; omega
          case rel => exact ⟨(IntKind.u64.wrap (Int.tdiv x0_1 256)), (y192), (by first | rfl | (simp; done) | (simp [*]; done)), H', ⟨by have := HK1.out; omega⟩, ⟨by (with_reducible repeat (first | apply Kd.R_alloc | apply Kd.R_drewN | apply Kd.R_drew)); exact Kd.R_mono HO194.out (fun _ hk => trivial)⟩, ⟨by repeat (first | (with_reducible first | exact HB.out | apply below_alloc | apply pw_below_drewN | apply below_drew1) | exact HB.out)⟩⟩
        · rw [if_neg c5] at H
          exact absurd H (by simp)
      · rw [if_neg c4] at H
        have c4b0 : decide (255 < x0_1) = false := decide_eq_false c4
        clear c4
        obtain ⟨y195, hy195⟩ : ∃ y_ : List Int, y_ = (([(wrap64 (16 + (x3_1.length : Int))) % 256] : List Int)) := ⟨_, rfl⟩
        replace H : (if y195.length + x3_1.length < 140737488355328 then (some (strOfNums (y195 ++ x3_1))) else (none)) = some r := by first | (rw [hy195]; with_reducible exact H) | (have H2_ := (Option.bind_some _ _).symm.trans H; rw [hy195]; with_reducible exact H2_) | (have H2_ := (Option.bind_some _ _).symm.trans H; with_reducible exact H2_) | with_reducible exact H | (rw [hy195]; exact H) | exact H
        have Ny195 := Aside0.mk hy195
        clear hy195
        by_cases c10 : y195.length + x3_1.length < 140737488355328
        · rw [if_pos c10] at H
          have LMc10 := Aside0.mk c10
          clear c10
          obtain ⟨y198, hy198⟩ : ∃ y_ : List Int, y_ = (y195 ++ x3_1) := ⟨_, rfl⟩
          replace H : (some (strOfNums y198)) = some r := by first | (rw [hy198]; with_reducible exact H) | (have H2_ := (Option.bind_some _ _).symm.trans H; rw [hy198]; with_reducible exact H2_) | (have H2_ := (Option.bind_some _ _).symm.trans H; with_reducible exact H2_) | with_reducible exact H | (rw [hy198]; exact H) | exact H
          have Ny198 := Aside0.mk hy198
          clear hy198
          obtain rfl := Option.some.inj H
          obtain ⟨Ao11, co11, eo11⟩ := Kd.R_slice HO_3.out
          subst eo11
          go_wp2_with (first | ((with_reducible refine gate_dst (N := 20) rfl ?_); refine Kd.R_lit (Kd.int .u8) _ 5 ?hg (N := 20) ?hd (xs := ([(wrap64 (16 + (x3_1.length : Int))) % 256] : List Int)) (inner := [.int .u8 ((wrap64 (16 + (x3_1.length : Int))) % 256)]) (ok := fun _ => True) (okp := fun _ => True) ?hr ?hp (fun _ hk => hk) trivial (Below.refl _ _) (Nat.le_refl _) (by simp) ?_; (case hd => rfl); (case hg => rfl); (case hr => first | (go_simp; done) | (go_simp; rfl)); (case hp => exact (Reps.one (show Kd.M (Kd.int .u8) _ _ _ ((wrap64 (16 + (x3_1.length : Int))) % 256) [.int .u8 ((wrap64 (16 + (x3_1.length : Int))) % 256)] from rfl) (Reps.none _ _))); intro v196 w12 ho13 hb hg_ hnew_; clear hg_ hnew_; (first | rw [← Ny195.out] at ho13 | (simp only [Int.reduceToNat] at ho13; rw [← Ny195.out] at ho13)); have n0_ := Aside0.mk (Kd.R_elder' (by (with_reducible repeat (first | apply Kd.R_alloc | apply Kd.R_drewN | apply Kd.R_drew)); exact HO_3.out) (Kd.R_base ho13) hb); have n1_ := Aside0.mk (Kd.R_lower (Kd.R_new' ho13 (Kd.R_lt (by (with_reducible repeat (first | apply Kd.R_alloc | apply Kd.R_drewN | apply Kd.R_drew)); exact HO_3.out))) (below_size (by repeat (first | (with_reducible first | exact HB.out | apply below_alloc | apply pw_below_drewN | apply below_drew1) | exact HB.out)))); have n2_ := Aside0.mk (below_step (by repeat (first | (with_reducible first | exact HB.out | apply below_alloc | apply pw_below_drewN | apply below_drew1) | exact HB.out)) hb); clear HO_3; clear HB; have HO_3 := n0_; have HO197 := n1_; have HB := n2_; clear n0_ n1_ n2_; clear hb ho13) | ((with_reducible refine gate_builtin (b := .append) (xs := #[.tmp 20, .tmp 21]) rfl ?_); at_builtin; refine Kd.R_append_rows (Kd.int .u8) (w0 := w) w.heap.size rfl (.tmp 20) (.tmp 21) 28 5 (.int .u8 0) 1 rfl Tryd.underlying28 info5 rfl (by decide) (by omega) v196 y195 x3_1 _ _ _ (fun k_ => some k_ ≠ (.slice Ao11 x3_1.length co11 : Value).ownBlock) (fun _ => False) rfl rfl ?aO ?aR (fun _ _ h => h) (fun _ h => h.elim) ?aF ?aB ?aS ?aL ?_; (case aR => repeat (first | exact (Kd.R_reads' HO_3.out).2.2 | (with_reducible refine Kd.C_alloc ?_ _) | (with_reducible refine Kd.C_drewN ?_ _) | (with_reducible refine Kd.C_drew ?_))); (case aB => exact (by repeat (first | (with_reducible first | exact HB.out | apply below_alloc | apply pw_below_drewN | apply below_drew1) | exact HB.out))); (case aF => exact (fun k_ hk => Kd.fresh' (Kd.R_lt (by (with_reducible repeat (first | apply Kd.R_alloc | apply Kd.R_drewN | apply Kd.R_drew)); exact HO_3.out)) k_ hk)); (case aO => exact (by (with_reducible repeat (first | apply Kd.R_alloc | apply Kd.R_drewN | apply Kd.R_drew)); exact Kd.R_mono HO197.out (fun _ hk => hk.2))); (case aS => exact (below_size (by repeat (first | (with_reducible first | exact HB.out | apply below_alloc | apply pw_below_drewN | apply below_drew1) | exact HB.out)))); (case aL => have := LMc10.out; first | omega | (simp only [ByteArray.size, List.size_toArray, List.length_cons, List.length_nil] at this ⊢; omega)); intro v199 w14 ho hb hg hat; rw [← Ny198.out] at ho; have n0_ := Aside0.mk (Kd.R_after (ok := (fun _ => True)) (by (with_reducible repeat (first | apply Kd.R_alloc | apply Kd.R_drewN | apply Kd.R_drew)); exact HO_3.out) hg hat); have n1_ := Aside0.mk (hb); have n2_ := Aside0.mk (ho); clear HO_3; clear HB; clear HO197; have HO_3 := n0_; have HB := n1_; have HO200 := n2_; clear n0_ n1_ n2_; clear ho hb hg hat; have hcv15 := own_string (P := Tryd.prog) Tryd.underlying28 Tryd.underlying5 Tryd.underlying9 (Kd.own_of_R HO200.out)))
          go_ret
          exact ⟨by first | rfl | (simp [errW_none, errW_some] <;> rfl) | (simp [*, errW_none, errW_some] <;> rfl), by repeat (first | (with_reducible first | exact HB.out | apply below_alloc | apply pw_below_drewN | apply below_drew1) | exact HB.out)⟩
        · rw [if_neg c10] at H
          exact absurd H (by simp)
end Go.Proofs.YtndeikikeeeigaaDoor.Q
end
section
namespace Go.Proofs.YtndeikikeeeigaaDoor.Q
open Go.RowKit Go.Proofs.YtndeikikeeeigaaDoorW.PrintWords Go.Proofs.YtndeikikeeeigaaDoorW.PrintLast Go.Proofs.YtndeikikeeeigaaDoorW.PrintMore
attribute [local go_sem] max2_int min2_int max_two min_two max_three min_three max_four min_four
set_option linter.unusedVariables false
set_option linter.unusedSimpArgs false
def plenumref02_number.j0 : Nat → ByteArray → Int → Int → Bool → Option (ByteArray × Bool)
  | 0, _, _, _, _ => none
  | k + 1, x0, x1, x2, x27 => if x27 = true then (some ((⟨#[]⟩ : ByteArray), false)) else (if 0 ≤ x1 then (if x1 < (x0.size : Int) then (if (((bt x0 x1) - x2) % 256) > (wrap64 ((wrap64 ((x0.size : Int) - x1)) - 1)) then (some ((⟨#[]⟩ : ByteArray), false)) else (if 0 ≤ (wrap64 (x1 + 1)) then (if (wrap64 (x1 + 1)) ≤ (wrap64 ((wrap64 (x1 + 1)) + (((bt x0 x1) - x2) % 256))) then (if (wrap64 ((wrap64 (x1 + 1)) + (((bt x0 x1) - x2) % 256))) ≤ (x0.size : Int) then (some (x0.extract ((wrap64 (x1 + 1)) : Int).toNat ((wrap64 ((wrap64 (x1 + 1)) + (((bt x0 x1) - x2) % 256))) : Int).toNat, true)) else (none)) else (none)) else (none))) else (none)) else (none))
def plenumref02_number.f (k : Nat) (a0 : ByteArray) (a1 : Int) (a2 : Int) : Option (ByteArray × Bool) := if a1 ≥ (a0.size : Int) then (plenumref02_number.j0 k a0 a1 a2 true) else (if 0 ≤ a1 then (if a1 < (a0.size : Int) then (if (bt a0 a1) ≤ a2 then (plenumref02_number.j0 k a0 a1 a2 true) else (plenumref02_number.j0 k a0 a1 a2 (decide ((bt a0 a1) > ((a2 + 8) % 256))))) else (none)) else (none))
set_option maxHeartbeats 8000000 in
set_option maxRecDepth 100000 in
theorem plenumref02_number.calls (k : Nat) (a0 : ByteArray) (a1 : Int) (a2 : Int) (r1 : ByteArray) (r2 : Bool) (w : World) (hG : Glob w) (h : plenumref02_number.f k a0 a1 a2 = some (r1, r2)) :
    Calls Tryd.prog 61 #[.string a0, .int .i64 a1, .int .u8 a2] w fun e w' => e = .returned (.tuple #[.string r1, .bool r2]) ∧ Drawn0 w w' := by
  have HG := Aside0.mk hG
  clear hG
  have H : (if a1 ≥ (a0.size : Int) then (plenumref02_number.j0 k a0 a1 a2 true) else (if 0 ≤ a1 then (if a1 < (a0.size : Int) then (if (bt a0 a1) ≤ a2 then (plenumref02_number.j0 k a0 a1 a2 true) else (plenumref02_number.j0 k a0 a1 a2 (decide ((bt a0 a1) > ((a2 + 8) % 256))))) else (none)) else (none))) = some (r1, r2) := h
  clear h
  have HC4 := Aside0.mk H
  clear H
  go_enter Tryd.func61, Tryd.ntmps61
  go_upto_region 1 with (fail)
  go_cut [27] (fun v27 wc => ∃ (kq : Nat) (x27_3 : Bool), v27 = .bool x27_3 ∧ Aside0 (plenumref02_number.j0 kq a0 a1 a2 x27_3 = some (r1, r2)) ∧ Aside0 (kq ≤ k) ∧ Drawn0 w wc)
  case first =>
    have H := HC4.out
    clear HC4
    by_cases c5 : a1 ≥ (a0.size : Int)
    · rw [if_pos c5] at H
      have c5b0 : decide ((a0.size : Int) ≤ a1) = true := decide_eq_true c5
      clear c5
      (first | rw [c5b0] | (simp only [i64_w, i32_w]; rw [c5b0]) | skip)
      have H' := Aside0.mk H
      clear H
      go_wp2
      go_meet
      case rel => exact ⟨_, (true), (by first | rfl | (simp; done) | (simp [*]; done)), H', ⟨by first | omega | exact Nat.le_refl _⟩, by repeat (first | exact Drawn0.refl _ | apply Drawn0.step)⟩
    · rw [if_neg c5] at H
      have c5b0 : decide ((a0.size : Int) ≤ a1) = false := decide_eq_false c5
      clear c5
      (first | rw [c5b0] | (simp only [i64_w, i32_w]; rw [c5b0]) | skip)
      by_cases c6 : 0 ≤ a1
      · rw [if_pos c6] at H
        have c6b0 : decide (0 ≤ a1) = true := decide_eq_true c6
        clear c6
        by_cases c7 : a1 < (a0.size : Int)
        · rw [if_pos c7] at H
          have c7b0 : decide (a1 < (a0.size : Int)) = true := decide_eq_true c7
          clear c7
          by_cases c9 : (bt a0 a1) ≤ a2
          · rw [if_pos c9] at H
            have c9b0 : decide ((bt a0 a1) ≤ a2) = true := decide_eq_true c9
            clear c9
            have H' := Aside0.mk H
            clear H
            have p8 : 0 ≤ (a1 : Int) := of_decide_eq_true (by first | (with_reducible assumption) | assumption)
            have q8 : a1 < (a0.size : Int) := of_decide_eq_true (by first | (with_reducible assumption) | assumption)
            have hx8 := bt_at a0 a1
            replace p8 := eq_true p8
            replace q8 := eq_true q8
            go_wp2
            go_meet
            case rel => exact ⟨_, (true), (by first | rfl | (simp; done) | (simp [*]; done)), H', ⟨by first | omega | exact Nat.le_refl _⟩, by repeat (first | exact Drawn0.refl _ | apply Drawn0.step)⟩
          · rw [if_neg c9] at H
            have c9b0 : decide ((bt a0 a1) ≤ a2) = false := decide_eq_false c9
            clear c9
            have H' := Aside0.mk H
            clear H
            have p8 : 0 ≤ (a1 : Int) := of_decide_eq_true (by first | (with_reducible assumption) | assumption)
            have q8 : a1 < (a0.size : Int) := of_decide_eq_true (by first | (with_reducible assumption) | assumption)
            have hx8 := bt_at a0 a1
            replace p8 := eq_true p8
            replace q8 := eq_true q8
            have p10 : 0 ≤ (a1 : Int) := of_decide_eq_true (by first | (with_reducible assumption) | assumption)
            have q10 : a1 < (a0.size : Int) := of_decide_eq_true (by first | (with_reducible assumption) | assumption)
            have hx10 := bt_at a0 a1
            replace p10 := eq_true p10
            replace q10 := eq_true q10
            go_wp2
            go_meet
            case rel => exact ⟨_, (decide ((bt a0 a1) > ((a2 + 8) % 256))), (by first | rfl | (simp; done) | (simp [*]; done)), H', ⟨by first | omega | exact Nat.le_refl _⟩, by repeat (first | exact Drawn0.refl _ | apply Drawn0.step)⟩
        · rw [if_neg c7] at H
          exact absurd H (by simp)
      · rw [if_neg c6] at H
        exact absurd H (by simp)
  case rest =>
    clear HC4
    try clear p1
    try clear q1
    try clear hx1
    try clear p2
    try clear c5
    try clear c5b0
    try clear c6
    try clear c6b0
    try clear c7
    try clear c7b0
    try clear p8
    try clear q8
    try clear hx8
    try clear c9
    try clear c9b0
    try clear p10
    try clear q10
    try clear hx10
    try clear p10
    try clear p8
    try clear q10
    try clear q8
    obtain ⟨kq, x27_3, rfl, HA, HJ3, ⟨mc3, rfl⟩⟩ := hcut
    cases kq with
    | zero => exact absurd HA.out (by simp [plenumref02_number.j0])
    | succ kj3 =>
      have H := HA.out
      clear HA
      simp only [plenumref02_number.j0] at H
      by_cases c11 : x27_3 = true
      · subst c11
        have H1 : (some ((⟨#[]⟩ : ByteArray), false)) = some (r1, r2) := by rw [if_pos rfl] at H; exact H
        clear H
        have H := H1
        clear H1
        simp only [Option.some.injEq, Prod.mk.injEq] at H
        obtain ⟨rfl, rfl⟩ := H
        go_wp2
        go_ret2
        exact ⟨by first | rfl | (simp; done) | (simp [*]; done), by repeat (first | exact Drawn0.refl _ | apply Drawn0.step)⟩
      · replace c11 := Bool.eq_false_iff.mpr c11
        subst c11
        have H1 : (if 0 ≤ a1 then (if a1 < (a0.size : Int) then (if (((bt a0 a1) - a2) % 256) > (wrap64 ((wrap64 ((a0.size : Int) - a1)) - 1)) then (some ((⟨#[]⟩ : ByteArray), false)) else (if 0 ≤ (wrap64 (a1 + 1)) then (if (wrap64 (a1 + 1)) ≤ (wrap64 ((wrap64 (a1 + 1)) + (((bt a0 a1) - a2) % 256))) then (if (wrap64 ((wrap64 (a1 + 1)) + (((bt a0 a1) - a2) % 256))) ≤ (a0.size : Int) then (some (a0.extract ((wrap64 (a1 + 1)) : Int).toNat ((wrap64 ((wrap64 (a1 + 1)) + (((bt a0 a1) - a2) % 256))) : Int).toNat, true)) else (none)) else (none)) else (none))) else (none)) else (none)) = some (r1, r2) := by rw [if_neg (show ¬ (false = true) by decide)] at H; exact H
        clear H
        have H := H1
        clear H1
        by_cases c12 : 0 ≤ a1
        · rw [if_pos c12] at H
          have c12b0 : decide (0 ≤ a1) = true := decide_eq_true c12
          clear c12
          by_cases c13 : a1 < (a0.size : Int)
          · rw [if_pos c13] at H
            have c13b0 : decide (a1 < (a0.size : Int)) = true := decide_eq_true c13
            clear c13
            by_cases c15 : (((bt a0 a1) - a2) % 256) > (wrap64 ((wrap64 ((a0.size : Int) - a1)) - 1))
            · rw [if_pos c15] at H
              have c15b0 : decide ((wrap64 ((wrap64 ((a0.size : Int) - a1)) - 1)) < (((bt a0 a1) - a2) % 256)) = true := decide_eq_true c15
              clear c15
              simp only [Option.some.injEq, Prod.mk.injEq] at H
              obtain ⟨rfl, rfl⟩ := H
              have p14 : 0 ≤ (a1 : Int) := of_decide_eq_true (by first | (with_reducible assumption) | assumption)
              have q14 : a1 < (a0.size : Int) := of_decide_eq_true (by first | (with_reducible assumption) | assumption)
              have hx14 := bt_at a0 a1
              replace p14 := eq_true p14
              replace q14 := eq_true q14
              go_wp2
              go_ret2
              exact ⟨by first | rfl | (simp; done) | (simp [*]; done), by repeat (first | exact Drawn0.refl _ | apply Drawn0.step)⟩
            · rw [if_neg c15] at H
              have c15b0 : decide ((wrap64 ((wrap64 ((a0.size : Int) - a1)) - 1)) < (((bt a0 a1) - a2) % 256)) = false := decide_eq_false c15
              clear c15
              obtain ⟨ji16, hji16⟩ : ∃ j_ : Int, (wrap64 (a1 + 1)) = j_ := ⟨_, rfl⟩
              replace H : (if 0 ≤ (ji16) then (if (ji16) ≤ (wrap64 ((ji16) + (((bt a0 a1) - a2) % 256))) then (if (wrap64 ((ji16) + (((bt a0 a1) - a2) % 256))) ≤ (a0.size : Int) then (some (a0.extract ((ji16) : Int).toNat ((wrap64 ((ji16) + (((bt a0 a1) - a2) % 256))) : Int).toNat, true)) else (none)) else (none)) else (none)) = some (r1, r2) := by first | (rw [hji16] at H; exact H) | (simp only [hji16] at H ⊢; exact H)
              have hji16w : (IntKind.i64.wrap (a1 + 1)) = ji16 := (i64_w _).trans hji16
              by_cases c17 : 0 ≤ (ji16)
              · rw [if_pos c17] at H
                have c17b0 := eq_true c17
                have c17b1 : decide (0 ≤ (ji16)) = true := decide_eq_true c17
                clear c17
                by_cases c18 : (ji16) ≤ (wrap64 ((ji16) + (((bt a0 a1) - a2) % 256)))
                · rw [if_pos c18] at H
                  have c18b0 := eq_true c18
                  have c18b1 : decide ((ji16) ≤ (wrap64 ((ji16) + (((bt a0 a1) - a2) % 256)))) = true := decide_eq_true c18
                  by_cases c19 : (wrap64 ((ji16) + (((bt a0 a1) - a2) % 256))) ≤ (a0.size : Int)
                  · rw [if_pos c19] at H
                    have c19b0 := eq_true c19
                    have c19b1 : decide ((wrap64 ((ji16) + (((bt a0 a1) - a2) % 256))) ≤ (a0.size : Int)) = true := decide_eq_true c19
                    simp only [Option.some.injEq, Prod.mk.injEq] at H
                    obtain ⟨rfl, rfl⟩ := H
                    have p14 : 0 ≤ (a1 : Int) := of_decide_eq_true (by first | (with_reducible assumption) | assumption)
                    have q14 : a1 < (a0.size : Int) := of_decide_eq_true (by first | (with_reducible assumption) | assumption)
                    have hx14 := bt_at a0 a1
                    replace p14 := eq_true p14
                    replace q14 := eq_true q14
                    go_wp2
                    go_ret2
                    exact ⟨by first | rfl | (simp; done) | (simp only [← hji16] <;> (first | rfl | simp)) | (simp [*]; done), by repeat (first | exact Drawn0.refl _ | apply Drawn0.step)⟩
                  · rw [if_neg c19] at H
                    exact absurd H (by simp)
                · rw [if_neg c18] at H
                  exact absurd H (by simp)
              · rw [if_neg c17] at H
                exact absurd H (by simp)
          · rw [if_neg c13] at H
            exact absurd H (by simp)
        · rw [if_neg c12] at H
          exact absurd H (by simp)
end Go.Proofs.YtndeikikeeeigaaDoor.Q
end
section
namespace Go.Proofs.YtndeikikeeeigaaDoor.Q
open Go.RowKit Go.Proofs.YtndeikikeeeigaaDoorW.PrintWords Go.Proofs.YtndeikikeeeigaaDoorW.PrintLast Go.Proofs.YtndeikikeeeigaaDoorW.PrintMore
attribute [local go_sem] max2_int min2_int max_two min_two max_three min_three max_four min_four
set_option linter.unusedVariables false
set_option linter.unusedSimpArgs false
def plenumref02_ReadUnsigned.l0 : Nat → Int → ByteArray → Bool → Int → Int → Option (Int × Int × Bool)
  | 0, _, _, _, _, _ => none
  | k + 1, x1, x7, x8, x9, x10 => if x10 < (x7.size : Int) then (if 0 ≤ x10 then (plenumref02_ReadUnsigned.l0 k x1 x7 x8 (Go.bits .or .u64 (IntKind.u64.wrap (x9 * 256)) (IntKind.u64.wrap (bt x7 x10))) (wrap64 (x10 + 1))) else (none)) else (if x8 = true then ((plenumref02_Unsigned.f k x9).bind fun t203 => (if (t203.size : Int) = (wrap64 ((x7.size : Int) + 1)) then (some (x9, wrap64 ((wrap64 (x1 + 1)) + (x7.size : Int)), true)) else (some (0, 0, false)))) else (some (0, 0, false)))
def plenumref02_ReadUnsigned.f (k : Nat) (a0 : ByteArray) (a1 : Int) : Option (Int × Int × Bool) := (plenumref02_number.f k a0 a1 16).bind fun bt201 => (plenumref02_ReadUnsigned.l0 k a1 bt201.1 bt201.2 0 0)
set_option maxHeartbeats 8000000 in
set_option maxRecDepth 100000 in
theorem plenumref02_ReadUnsigned.calls (k : Nat) (a0 : ByteArray) (a1 : Int) (r1 : Int) (r2 : Int) (r3 : Bool) (w : World) (hG : Glob w) (h : plenumref02_ReadUnsigned.f k a0 a1 = some (r1, r2, r3)) :
    Calls Tryd.prog 37 #[.string a0, .int .i64 a1] w fun e w' => e = .returned (.tuple #[.int .u64 r1, .int .i64 r2, .bool r3]) ∧ Below w.heap.size w w' := by
  have HG := Aside0.mk hG
  clear hG
  have HB := Aside0.mk (Below.refl w.heap.size w)
  have H : ((plenumref02_number.f k a0 a1 16).bind fun bt201 => (plenumref02_ReadUnsigned.l0 k a1 bt201.1 bt201.2 0 0)) = some (r1, r2, r3) := h
  clear h
  replace H := Option.bind_eq_some_iff.mp H
  obtain ⟨⟨t201, t202⟩, A30, H⟩ := H
  replace H : (plenumref02_ReadUnsigned.l0 k a1 t201 t202 0 0) = some (r1, r2, r3) := H
  have A3 := Aside0.mk A30
  clear A30
  have H' := Aside0.mk H
  clear H
  go_enter Tryd.func37, Tryd.ntmps37
  go_wp2_with (first | ((with_reducible refine gate_callee (f := 61) rfl ?_); refine goesL_ (some 14) rfl rfl Tryd.func61 (by kernel_rfl) rfl #[.string a0, .int .i64 a1, .int .u8 16] rfl (by (try simp only [List.map_toArray, List.map_cons, List.map_nil]); first | done | rfl | (simp only [List.length_drop, List.length_take]; rfl)) ?_; (with_reducible refine (plenumref02_number.calls k a0 a1 16 t201 t202 _ ?side99  A3.out).mono ?_); (case side99 => first | exact HG.out | exact Glob.below HG.out (by repeat (first | (with_reducible first | exact HB.out | apply below_alloc | apply pw_below_drewN | apply below_drew1) | exact HB.out))); rintro e w' ⟨rfl, ⟨nd, rfl⟩⟩; refine ⟨_, rfl, ?_⟩))
  go_loopg [9, 10] k (fun kq v9 v10 w' => ∃ (x9_1 : Int) (x10_1 : Int), v9 = .int .u64 x9_1 ∧ v10 = .int .i64 x10_1 ∧ Aside0 (plenumref02_ReadUnsigned.l0 kq a1 t201 t202 x9_1 x10_1 = some (r1, r2, r3)) ∧ Aside0 (kq ≤ k) ∧ Aside0 (Below w.heap.size w w'))
  case atStart => exact ⟨(0), (0), (by first | rfl | (simp; done) | (simp [*]; done)), (by first | rfl | (simp; done) | (simp [*]; done)), H', ⟨Nat.le_refl _⟩, ⟨by repeat (first | (with_reducible first | exact HB.out | apply below_alloc | apply pw_below_drewN | apply below_drew1) | exact HB.out)⟩⟩
  case round =>
    clear H'
    try clear p2
    try clear c3
    obtain ⟨x9_1, x10_1, rfl, rfl, HA, HK1, HB⟩ := hrel
    cases gk with
    | zero => exact absurd HA.out (by simp [plenumref02_ReadUnsigned.l0])
    | succ k1 =>
      have H := HA.out
      clear HA
      simp only [plenumref02_ReadUnsigned.l0] at H
      by_cases c4 : x10_1 < (t201.size : Int)
      · rw [if_pos c4] at H
        have c4b0 : decide (x10_1 < (t201.size : Int)) = true := decide_eq_true c4
        clear c4
        by_cases c5 : 0 ≤ x10_1
        · rw [if_pos c5] at H
          have c5b0 : decide (0 ≤ x10_1) = true := decide_eq_true c5
          clear c5
          have H' := Aside0.mk H
          clear H
          have p6 : 0 ≤ (x10_1 : Int) := of_decide_eq_true (by first | (with_reducible assumption) | assumption)
          have q6 : x10_1 < (t201.size : Int) := of_decide_eq_true (by first | (with_reducible assumption) | assumption)
          have hx6 := bt_at t201 x10_1
          replace p6 := eq_true p6
          replace q6 := eq_true q6
          go_wp2
          go_roundg k1
          case measure => have := HK1.out; omega
          case rel => exact ⟨(Go.bits .or .u64 (IntKind.u64.wrap (x9_1 * 256)) (IntKind.u64.wrap (bt t201 x10_1))), (wrap64 (x10_1 + 1)), (by first | rfl | (simp; done) | (simp [*]; done)), (by first | rfl | (simp; done) | (simp [*]; done)), H', ⟨by have := HK1.out; omega⟩, ⟨by repeat (first | (with_reducible first | exact HB.out | apply below_alloc | apply pw_below_drewN | apply below_drew1) | exact HB.out)⟩⟩
        · rw [if_neg c5] at H
          exact absurd H (by simp)
      · rw [if_neg c4] at H
        have c4b0 : decide (x10_1 < (t201.size : Int)) = false := decide_eq_false c4
        clear c4
        by_cases c7 : t202 = true
        · subst c7
          have H1 : ((plenumref02_Unsigned.f k1 x9_1).bind fun t203 => (if (t203.size : Int) = (wrap64 ((t201.size : Int) + 1)) then (some (x9_1, wrap64 ((wrap64 (a1 + 1)) + (t201.size : Int)), true)) else (some (0, 0, false)))) = some (r1, r2, r3) := by rw [if_pos rfl] at H; exact H
          clear H
          have H := H1
          clear H1
          replace H := Option.bind_eq_some_iff.mp H
          obtain ⟨t203, A80, H⟩ := H
          replace H : (if (t203.size : Int) = (wrap64 ((t201.size : Int) + 1)) then (some (x9_1, wrap64 ((wrap64 (a1 + 1)) + (t201.size : Int)), true)) else (some (0, 0, false))) = some (r1, r2, r3) := H
          have A8 := Aside0.mk A80
          clear A80
          by_cases c9 : (t203.size : Int) = (wrap64 ((t201.size : Int) + 1))
          · rw [if_pos c9] at H
            have c9b0 : ((t203.size : Int) == (wrap64 ((t201.size : Int) + 1))) = true := beq_iff_eq.mpr c9
            have c9b1 : ((t203.size : Int) != (wrap64 ((t201.size : Int) + 1))) = false := bne_eq_false_iff_eq.mpr c9
            clear c9
            simp only [Option.some.injEq, Prod.mk.injEq] at H
            obtain ⟨rfl, rfl, rfl⟩ := H
            go_wp2_with (first | (go_at_call 44; (with_reducible refine (plenumref02_Unsigned.calls k1 x9_1 t203 _ ?side99  A8.out).mono ?_); (case side99 => first | exact HG.out | exact Glob.below HG.out (by repeat (first | (with_reducible first | exact HB.out | apply below_alloc | apply pw_below_drewN | apply below_drew1) | exact HB.out))); rintro e w10 ⟨rfl, hb⟩; have n0_ := Aside0.mk (below_step (by repeat (first | (with_reducible first | exact HB.out | apply below_alloc | apply pw_below_drewN | apply below_drew1) | exact HB.out)) hb); clear HB; have HB := n0_; clear n0_; (try clear hb); (try clear hb2); (try clear hk); (try clear hi)))
            go_ret3
            exact ⟨by first | rfl | (simp [errW_none, errW_some] <;> rfl) | (simp [*, errW_none, errW_some] <;> rfl), by repeat (first | (with_reducible first | exact HB.out | apply below_alloc | apply pw_below_drewN | apply below_drew1) | exact HB.out)⟩
          · rw [if_neg c9] at H
            have c9b0 : ((t203.size : Int) == (wrap64 ((t201.size : Int) + 1))) = false := beq_eq_false_iff_ne.mpr c9
            have c9b1 : ((t203.size : Int) != (wrap64 ((t201.size : Int) + 1))) = true := bne_iff_ne.mpr c9
            simp only [Option.some.injEq, Prod.mk.injEq] at H
            obtain ⟨rfl, rfl, rfl⟩ := H
            go_wp2_with (first | (go_at_call 44; (with_reducible refine (plenumref02_Unsigned.calls k1 x9_1 t203 _ ?side99  A8.out).mono ?_); (case side99 => first | exact HG.out | exact Glob.below HG.out (by repeat (first | (with_reducible first | exact HB.out | apply below_alloc | apply pw_below_drewN | apply below_drew1) | exact HB.out))); rintro e w11 ⟨rfl, hb⟩; have n0_ := Aside0.mk (below_step (by repeat (first | (with_reducible first | exact HB.out | apply below_alloc | apply pw_below_drewN | apply below_drew1) | exact HB.out)) hb); clear HB; have HB := n0_; clear n0_; (try clear hb); (try clear hb2); (try clear hk); (try clear hi)))
            go_ret3
            exact ⟨by first | rfl | (simp [errW_none, errW_some] <;> rfl) | (simp [*, errW_none, errW_some] <;> rfl), by repeat (first | (with_reducible first | exact HB.out | apply below_alloc | apply pw_below_drewN | apply below_drew1) | exact HB.out)⟩
        · replace c7 := Bool.eq_false_iff.mpr c7
          subst c7
          have H1 : (some (0, 0, false)) = some (r1, r2, r3) := by rw [if_neg (show ¬ (false = true) by decide)] at H; exact H
          clear H
          have H := H1
          clear H1
          simp only [Option.some.injEq, Prod.mk.injEq] at H
          obtain ⟨rfl, rfl, rfl⟩ := H
          go_wp2
          go_ret3
          exact ⟨by first | rfl | (simp [errW_none, errW_some] <;> rfl) | (simp [*, errW_none, errW_some] <;> rfl), by repeat (first | (with_reducible first | exact HB.out | apply below_alloc | apply pw_below_drewN | apply below_drew1) | exact HB.out)⟩
end Go.Proofs.YtndeikikeeeigaaDoor.Q
end
section
namespace Go.Proofs.YtndeikikeeeigaaDoor.Q
open Go.RowKit Go.Proofs.YtndeikikeeeigaaDoorW.PrintWords Go.Proofs.YtndeikikeeeigaaDoorW.PrintLast Go.Proofs.YtndeikikeeeigaaDoorW.PrintMore
attribute [local go_sem] max2_int min2_int max_two min_two max_three min_three max_four min_four
set_option linter.unusedVariables false
set_option linter.unusedSimpArgs false
def plenumref02_Signed.l0 : Nat → Int → List Int → Option (ByteArray)
  | 0, _, _ => none
  | k + 1, x0, x3 => if x0 < (-128) then ((some (([(x0 / 256) % 256] : List Int) : List Int)).bind fun y207 => (if y207.length + x3.length < 140737488355328 then (plenumref02_Signed.l0 k (x0 / 256) (y207 ++ x3)) else (none))) else (if x0 > 127 then ((some (([(x0 / 256) % 256] : List Int) : List Int)).bind fun y213 => (if y213.length + x3.length < 140737488355328 then (plenumref02_Signed.l0 k (x0 / 256) (y213 ++ x3)) else (none))) else ((some (([(wrap64 (32 + (x3.length : Int))) % 256] : List Int) : List Int)).bind fun y219 => (if y219.length + x3.length < 140737488355328 then (some (strOfNums (y219 ++ x3))) else (none))))
def plenumref02_Signed.f (k : Nat) (a0 : Int) : Option (ByteArray) := plenumref02_Signed.l0 k a0 (([(a0) % 256] : List Int))
set_option maxHeartbeats 8000000 in
set_option maxRecDepth 100000 in
theorem plenumref02_Signed.calls (k : Nat) (a0 : Int) (r : ByteArray) (w : World) (hG : Glob w) (h : plenumref02_Signed.f k a0 = some r) :
    Calls Tryd.prog 46 #[.int .i64 a0] w fun e w' => e = .returned (.string r) ∧ Below w.heap.size w w' := by
  have HG := Aside0.mk hG
  clear hG
  have HB := Aside0.mk (Below.refl w.heap.size w)
  have H : (plenumref02_Signed.l0 k a0 (([(a0) % 256] : List Int))) = some r := h
  clear h
  obtain ⟨y204, hy204⟩ : ∃ y_ : List Int, y_ = (([(a0) % 256] : List Int)) := ⟨_, rfl⟩
  replace H : (plenumref02_Signed.l0 k a0 y204) = some r := by first | (rw [hy204]; with_reducible exact H) | (have H2_ := (Option.bind_some _ _).symm.trans H; rw [hy204]; with_reducible exact H2_) | (have H2_ := (Option.bind_some _ _).symm.trans H; with_reducible exact H2_) | with_reducible exact H | (rw [hy204]; exact H) | exact H
  have Ny204 := Aside0.mk hy204
  clear hy204
  have H' := Aside0.mk H
  clear H
  go_enter Tryd.func46, Tryd.ntmps46
  go_wp2_with (first | ((with_reducible refine gate_dst (N := 6) rfl ?_); refine Kd.R_lit (Kd.int .u8) _ 5 ?hg (N := 6) ?hd (xs := ([(a0) % 256] : List Int)) (inner := [.int .u8 ((a0) % 256)]) (ok := fun _ => True) (okp := fun _ => True) ?hr ?hp (fun _ hk => hk) trivial (Below.refl _ _) (Nat.le_refl _) (by simp) ?_; (case hd => rfl); (case hg => rfl); (case hr => first | (go_simp; done) | (go_simp; rfl)); (case hp => exact (Reps.one (show Kd.M (Kd.int .u8) _ _ _ ((a0) % 256) [.int .u8 ((a0) % 256)] from rfl) (Reps.none _ _))); intro v205 w2 ho3 hb hg_ hnew_; clear hg_ hnew_; (first | rw [← Ny204.out] at ho3 | (simp only [Int.reduceToNat] at ho3; rw [← Ny204.out] at ho3)); have n0_ := Aside0.mk (Kd.R_lower ho3 (below_size (by repeat (first | (with_reducible first | exact HB.out | apply below_alloc | apply pw_below_drewN | apply below_drew1) | exact HB.out)))); have n1_ := Aside0.mk (below_step (by repeat (first | (with_reducible first | exact HB.out | apply below_alloc | apply pw_below_drewN | apply below_drew1) | exact HB.out)) hb); clear HB; have HO206 := n0_; have HB := n1_; clear n0_ n1_; clear hb ho3))
  go_loopg [0, 3] k (fun kq v0 v3 w' => ∃ (x0_1 : Int) (x3_1 : List Int), v0 = .int .i64 x0_1 ∧ Aside0 (plenumref02_Signed.l0 kq x0_1 x3_1 = some r) ∧ Aside0 (kq ≤ k) ∧ Aside0 (Kd.R (Kd.int .u8) 5 w' w.heap.size (fun _ => True) v3 x3_1) ∧ Aside0 (Below w.heap.size w w'))
  case atStart => exact ⟨(a0), (y204), (by first | rfl | (simp; done) | (simp [*]; done)), H', ⟨Nat.le_refl _⟩, ⟨by (with_reducible repeat (first | apply Kd.R_alloc | apply Kd.R_drewN | apply Kd.R_drew)); exact HO206.out⟩, ⟨by repeat (first | (with_reducible first | exact HB.out | apply below_alloc | apply pw_below_drewN | apply below_drew1) | exact HB.out)⟩⟩
  case round =>
    clear H'
    try clear p2
    obtain ⟨x0_1, x3_1, rfl, HA, HK1, HO_3, HB⟩ := hrel
    cases gk with
    | zero => exact absurd HA.out (by simp [plenumref02_Signed.l0])
    | succ k1 =>
      have H := HA.out
      clear HA
      simp only [plenumref02_Signed.l0] at H
      by_cases c4 : x0_1 < (-128)
      · rw [if_pos c4] at H
        have c4b0 : decide (x0_1 < (-128)) = true := decide_eq_true c4
        clear c4
        obtain ⟨y207, hy207⟩ : ∃ y_ : List Int, y_ = (([(x0_1 / 256) % 256] : List Int)) := ⟨_, rfl⟩
        replace H : (if y207.length + x3_1.length < 140737488355328 then (plenumref02_Signed.l0 k1 (x0_1 / 256) (y207 ++ x3_1)) else (none)) = some r := by first | (rw [hy207]; with_reducible exact H) | (have H2_ := (Option.bind_some _ _).symm.trans H; rw [hy207]; with_reducible exact H2_) | (have H2_ := (Option.bind_some _ _).symm.trans H; with_reducible exact H2_) | with_reducible exact H | (rw [hy207]; exact H) | exact H
        have Ny207 := Aside0.mk hy207
        clear hy207
        by_cases c5 : y207.length + x3_1.length < 140737488355328
        · rw [if_pos c5] at H
          have LMc5 := Aside0.mk c5
          clear c5
          obtain ⟨y210, hy210⟩ : ∃ y_ : List Int, y_ = (y207 ++ x3_1) := ⟨_, rfl⟩
          replace H : (plenumref02_Signed.l0 k1 (x0_1 / 256) y210) = some r := by first | (rw [hy210]; with_reducible exact H) | (have H2_ := (Option.bind_some _ _).symm.trans H; rw [hy210]; with_reducible exact H2_) | (have H2_ := (Option.bind_some _ _).symm.trans H; with_reducible exact H2_) | with_reducible exact H | (rw [hy210]; exact H) | exact H
          have Ny210 := Aside0.mk hy210
          clear hy210
          have H' := Aside0.mk H
          clear H
          go_wp2_with (first | ((with_reducible refine gate_dst (N := 17) rfl ?_); refine Kd.R_lit (Kd.int .u8) _ 5 ?hg (N := 17) ?hd (xs := ([(x0_1 / 256) % 256] : List Int)) (inner := [.int .u8 ((x0_1 / 256) % 256)]) (ok := fun _ => True) (okp := fun _ => True) ?hr ?hp (fun _ hk => hk) trivial (Below.refl _ _) (Nat.le_refl _) (by simp) ?_; (case hd => rfl); (case hg => rfl); (case hr => first | (go_simp; done) | (go_simp; rfl)); (case hp => exact (Reps.one (show Kd.M (Kd.int .u8) _ _ _ ((x0_1 / 256) % 256) [.int .u8 ((x0_1 / 256) % 256)] from rfl) (Reps.none _ _))); intro v208 w6 ho7 hb hg_ hnew_; clear hg_ hnew_; (first | rw [← Ny207.out] at ho7 | (simp only [Int.reduceToNat] at ho7; rw [← Ny207.out] at ho7)); have n0_ := Aside0.mk (Kd.R_elder' (by (with_reducible repeat (first | apply Kd.R_alloc | apply Kd.R_drewN | apply Kd.R_drew)); exact HO_3.out) (Kd.R_base ho7) hb); have n1_ := Aside0.mk (Kd.R_lower (Kd.R_new' ho7 (Kd.R_lt (by (with_reducible repeat (first | apply Kd.R_alloc | apply Kd.R_drewN | apply Kd.R_drew)); exact HO_3.out))) (below_size (by repeat (first | (with_reducible first | exact HB.out | apply below_alloc | apply pw_below_drewN | apply below_drew1) | exact HB.out)))); have n2_ := Aside0.mk (below_step (by repeat (first | (with_reducible first | exact HB.out | apply below_alloc | apply pw_below_drewN | apply below_drew1) | exact HB.out)) hb); clear HO_3; clear HB; have HO_3 := n0_; have HO209 := n1_; have HB := n2_; clear n0_ n1_ n2_; clear hb ho7; obtain ⟨Ao9, co9, eo9⟩ := Kd.R_slice HO_3.out; subst eo9) | ((with_reducible refine gate_builtin (b := .append) (xs := #[.tmp 17, .tmp 18]) rfl ?_); at_builtin; refine Kd.R_append_rows (Kd.int .u8) (w0 := w) w.heap.size rfl (.tmp 17) (.tmp 18) 28 5 (.int .u8 0) 1 rfl Tryd.underlying28 info5 rfl (by decide) (by omega) v208 y207 x3_1 _ _ _ (fun k_ => some k_ ≠ (.slice Ao9 x3_1.length co9 : Value).ownBlock) (fun _ => False) rfl rfl ?aO ?aR (fun _ _ h => h) (fun _ h => h.elim) ?aF ?aB ?aS ?aL ?_; (case aR => repeat (first | exact (Kd.R_reads' HO_3.out).2.2 | (with_reducible refine Kd.C_alloc ?_ _) | (with_reducible refine Kd.C_drewN ?_ _) | (with_reducible refine Kd.C_drew ?_))); (case aB => exact (by repeat (first | (with_reducible first | exact HB.out | apply below_alloc | apply pw_below_drewN | apply below_drew1) | exact HB.out))); (case aF => exact (fun k_ hk => Kd.fresh' (Kd.R_lt (by (with_reducible repeat (first | apply Kd.R_alloc | apply Kd.R_drewN | apply Kd.R_drew)); exact HO_3.out)) k_ hk)); (case aO => exact (by (with_reducible repeat (first | apply Kd.R_alloc | apply Kd.R_drewN | apply Kd.R_drew)); exact Kd.R_mono HO209.out (fun _ hk => hk.2))); (case aS => exact (below_size (by repeat (first | (with_reducible first | exact HB.out | apply below_alloc | apply pw_below_drewN | apply below_drew1) | exact HB.out)))); (case aL => have := LMc5.out; first | omega | (simp only [ByteArray.size, List.size_toArray, List.length_cons, List.length_nil] at this ⊢; omega)); intro v211 w8 ho hb hg hat; rw [← Ny210.out] at ho; have n0_ := Aside0.mk (Kd.R_after (ok := (fun _ => True)) (by (with_reducible repeat (first | apply Kd.R_alloc | apply Kd.R_drewN | apply Kd.R_drew)); exact HO_3.out) hg hat); have n1_ := Aside0.mk (hb); have n2_ := Aside0.mk (ho); clear HO_3; clear HB; clear HO209; have HO_3 := n0_; have HB := n1_; have HO212 := n2_; clear n0_ n1_ n2_; clear ho hb hg hat))
          go_roundg k1
          case measure => have := HK1.out; omega
          case rel => exact ⟨(x0_1 / 256), (y210), (by first | rfl | (simp; done) | (simp [*]; done)), H', ⟨by have := HK1.out; omega⟩, ⟨by (with_reducible repeat (first | apply Kd.R_alloc | apply Kd.R_drewN | apply Kd.R_drew)); exact Kd.R_mono HO212.out (fun _ hk => trivial)⟩, ⟨by repeat (first | (with_reducible first | exact HB.out | apply below_alloc | apply pw_below_drewN | apply below_drew1) | exact HB.out)⟩⟩
        · rw [if_neg c5] at H
          exact absurd H (by simp)
      · rw [if_neg c4] at H
        have c4b0 : decide (x0_1 < (-128)) = false := decide_eq_false c4
        clear c4
        by_cases c10 : x0_1 > 127
        · rw [if_pos c10] at H
          have c10b0 : decide (127 < x0_1) = true := decide_eq_true c10
          clear c10
          obtain ⟨y213, hy213⟩ : ∃ y_ : List Int, y_ = (([(x0_1 / 256) % 256] : List Int)) := ⟨_, rfl⟩
          replace H : (if y213.length + x3_1.length < 140737488355328 then (plenumref02_Signed.l0 k1 (x0_1 / 256) (y213 ++ x3_1)) else (none)) = some r := by first | (rw [hy213]; with_reducible exact H) | (have H2_ := (Option.bind_some _ _).symm.trans H; rw [hy213]; with_reducible exact H2_) | (have H2_ := (Option.bind_some _ _).symm.trans H; with_reducible exact H2_) | with_reducible exact H | (rw [hy213]; exact H) | exact H
          have Ny213 := Aside0.mk hy213
          clear hy213
          by_cases c11 : y213.length + x3_1.length < 140737488355328
          · rw [if_pos c11] at H
            have LMc11 := Aside0.mk c11
            clear c11
            obtain ⟨y216, hy216⟩ : ∃ y_ : List Int, y_ = (y213 ++ x3_1) := ⟨_, rfl⟩
            replace H : (plenumref02_Signed.l0 k1 (x0_1 / 256) y216) = some r := by first | (rw [hy216]; with_reducible exact H) | (have H2_ := (Option.bind_some _ _).symm.trans H; rw [hy216]; with_reducible exact H2_) | (have H2_ := (Option.bind_some _ _).symm.trans H; with_reducible exact H2_) | with_reducible exact H | (rw [hy216]; exact H) | exact H
            have Ny216 := Aside0.mk hy216
            clear hy216
            have H' := Aside0.mk H
            clear H
            go_wp2_with (first | ((with_reducible refine gate_dst (N := 17) rfl ?_); refine Kd.R_lit (Kd.int .u8) _ 5 ?hg (N := 17) ?hd (xs := ([(x0_1 / 256) % 256] : List Int)) (inner := [.int .u8 ((x0_1 / 256) % 256)]) (ok := fun _ => True) (okp := fun _ => True) ?hr ?hp (fun _ hk => hk) trivial (Below.refl _ _) (Nat.le_refl _) (by simp) ?_; (case hd => rfl); (case hg => rfl); (case hr => first | (go_simp; done) | (go_simp; rfl)); (case hp => exact (Reps.one (show Kd.M (Kd.int .u8) _ _ _ ((x0_1 / 256) % 256) [.int .u8 ((x0_1 / 256) % 256)] from rfl) (Reps.none _ _))); intro v214 w12 ho13 hb hg_ hnew_; clear hg_ hnew_; (first | rw [← Ny213.out] at ho13 | (simp only [Int.reduceToNat] at ho13; rw [← Ny213.out] at ho13)); have n0_ := Aside0.mk (Kd.R_elder' (by (with_reducible repeat (first | apply Kd.R_alloc | apply Kd.R_drewN | apply Kd.R_drew)); exact HO_3.out) (Kd.R_base ho13) hb); have n1_ := Aside0.mk (Kd.R_lower (Kd.R_new' ho13 (Kd.R_lt (by (with_reducible repeat (first | apply Kd.R_alloc | apply Kd.R_drewN | apply Kd.R_drew)); exact HO_3.out))) (below_size (by repeat (first | (with_reducible first | exact HB.out | apply below_alloc | apply pw_below_drewN | apply below_drew1) | exact HB.out)))); have n2_ := Aside0.mk (below_step (by repeat (first | (with_reducible first | exact HB.out | apply below_alloc | apply pw_below_drewN | apply below_drew1) | exact HB.out)) hb); clear HO_3; clear HB; have HO_3 := n0_; have HO215 := n1_; have HB := n2_; clear n0_ n1_ n2_; clear hb ho13; obtain ⟨Ao15, co15, eo15⟩ := Kd.R_slice HO_3.out; subst eo15) | ((with_reducible refine gate_builtin (b := .append) (xs := #[.tmp 17, .tmp 18]) rfl ?_); at_builtin; refine Kd.R_append_rows (Kd.int .u8) (w0 := w) w.heap.size rfl (.tmp 17) (.tmp 18) 28 5 (.int .u8 0) 1 rfl Tryd.underlying28 info5 rfl (by decide) (by omega) v214 y213 x3_1 _ _ _ (fun k_ => some k_ ≠ (.slice Ao15 x3_1.length co15 : Value).ownBlock) (fun _ => False) rfl rfl ?aO ?aR (fun _ _ h => h) (fun _ h => h.elim) ?aF ?aB ?aS ?aL ?_; (case aR => repeat (first | exact (Kd.R_reads' HO_3.out).2.2 | (with_reducible refine Kd.C_alloc ?_ _) | (with_reducible refine Kd.C_drewN ?_ _) | (with_reducible refine Kd.C_drew ?_))); (case aB => exact (by repeat (first | (with_reducible first | exact HB.out | apply below_alloc | apply pw_below_drewN | apply below_drew1) | exact HB.out))); (case aF => exact (fun k_ hk => Kd.fresh' (Kd.R_lt (by (with_reducible repeat (first | apply Kd.R_alloc | apply Kd.R_drewN | apply Kd.R_drew)); exact HO_3.out)) k_ hk)); (case aO => exact (by (with_reducible repeat (first | apply Kd.R_alloc | apply Kd.R_drewN | apply Kd.R_drew)); exact Kd.R_mono HO215.out (fun _ hk => hk.2))); (case aS => exact (below_size (by repeat (first | (with_reducible first | exact HB.out | apply below_alloc | apply pw_below_drewN | apply below_drew1) | exact HB.out)))); (case aL => have := LMc11.out; first | omega | (simp only [ByteArray.size, List.size_toArray, List.length_cons, List.length_nil] at this ⊢; omega)); intro v217 w14 ho hb hg hat; rw [← Ny216.out] at ho; have n0_ := Aside0.mk (Kd.R_after (ok := (fun _ => True)) (by (with_reducible repeat (first | apply Kd.R_alloc | apply Kd.R_drewN | apply Kd.R_drew)); exact HO_3.out) hg hat); have n1_ := Aside0.mk (hb); have n2_ := Aside0.mk (ho); clear HO_3; clear HB; clear HO215; have HO_3 := n0_; have HB := n1_; have HO218 := n2_; clear n0_ n1_ n2_; clear ho hb hg hat))
            go_roundg k1
            case measure => have := HK1.out; omega
            case rel => exact ⟨(x0_1 / 256), (y216), (by first | rfl | (simp; done) | (simp [*]; done)), H', ⟨by have := HK1.out; omega⟩, ⟨by (with_reducible repeat (first | apply Kd.R_alloc | apply Kd.R_drewN | apply Kd.R_drew)); exact Kd.R_mono HO218.out (fun _ hk => trivial)⟩, ⟨by repeat (first | (with_reducible first | exact HB.out | apply below_alloc | apply pw_below_drewN | apply below_drew1) | exact HB.out)⟩⟩
          · rw [if_neg c11] at H
            exact absurd H (by simp)
        · rw [if_neg c10] at H
          have c10b0 : decide (127 < x0_1) = false := decide_eq_false c10
          clear c10
          obtain ⟨y219, hy219⟩ : ∃ y_ : List Int, y_ = (([(wrap64 (32 + (x3_1.length : Int))) % 256] : List Int)) := ⟨_, rfl⟩
          replace H : (if y219.length + x3_1.length < 140737488355328 then (some (strOfNums (y219 ++ x3_1))) else (none)) = some r := by first | (rw [hy219]; with_reducible exact H) | (have H2_ := (Option.bind_some _ _).symm.trans H; rw [hy219]; with_reducible exact H2_) | (have H2_ := (Option.bind_some _ _).symm.trans H; with_reducible exact H2_) | with_reducible exact H | (rw [hy219]; exact H) | exact H
          have Ny219 := Aside0.mk hy219
          clear hy219
          by_cases c16 : y219.length + x3_1.length < 140737488355328
          · rw [if_pos c16] at H
            have LMc16 := Aside0.mk c16
            clear c16
            obtain ⟨y222, hy222⟩ : ∃ y_ : List Int, y_ = (y219 ++ x3_1) := ⟨_, rfl⟩
            replace H : (some (strOfNums y222)) = some r := by first | (rw [hy222]; with_reducible exact H) | (have H2_ := (Option.bind_some _ _).symm.trans H; rw [hy222]; with_reducible exact H2_) | (have H2_ := (Option.bind_some _ _).symm.trans H; with_reducible exact H2_) | with_reducible exact H | (rw [hy222]; exact H) | exact H
            have Ny222 := Aside0.mk hy222
            clear hy222
            obtain rfl := Option.some.inj H
            obtain ⟨Ao17, co17, eo17⟩ := Kd.R_slice HO_3.out
            subst eo17
            go_wp2_with (first | ((with_reducible refine gate_dst (N := 24) rfl ?_); refine Kd.R_lit (Kd.int .u8) _ 5 ?hg (N := 24) ?hd (xs := ([(wrap64 (32 + (x3_1.length : Int))) % 256] : List Int)) (inner := [.int .u8 ((wrap64 (32 + (x3_1.length : Int))) % 256)]) (ok := fun _ => True) (okp := fun _ => True) ?hr ?hp (fun _ hk => hk) trivial (Below.refl _ _) (Nat.le_refl _) (by simp) ?_; (case hd => rfl); (case hg => rfl); (case hr => first | (go_simp; done) | (go_simp; rfl)); (case hp => exact (Reps.one (show Kd.M (Kd.int .u8) _ _ _ ((wrap64 (32 + (x3_1.length : Int))) % 256) [.int .u8 ((wrap64 (32 + (x3_1.length : Int))) % 256)] from rfl) (Reps.none _ _))); intro v220 w18 ho19 hb hg_ hnew_; clear hg_ hnew_; (first | rw [← Ny219.out] at ho19 | (simp only [Int.reduceToNat] at ho19; rw [← Ny219.out] at ho19)); have n0_ := Aside0.mk (Kd.R_elder' (by (with_reducible repeat (first | apply Kd.R_alloc | apply Kd.R_drewN | apply Kd.R_drew)); exact HO_3.out) (Kd.R_base ho19) hb); have n1_ := Aside0.mk (Kd.R_lower (Kd.R_new' ho19 (Kd.R_lt (by (with_reducible repeat (first | apply Kd.R_alloc | apply Kd.R_drewN | apply Kd.R_drew)); exact HO_3.out))) (below_size (by repeat (first | (with_reducible first | exact HB.out | apply below_alloc | apply pw_below_drewN | apply below_drew1) | exact HB.out)))); have n2_ := Aside0.mk (below_step (by repeat (first | (with_reducible first | exact HB.out | apply below_alloc | apply pw_below_drewN | apply below_drew1) | exact HB.out)) hb); clear HO_3; clear HB; have HO_3 := n0_; have HO221 := n1_; have HB := n2_; clear n0_ n1_ n2_; clear hb ho19) | ((with_reducible refine gate_builtin (b := .append) (xs := #[.tmp 24, .tmp 25]) rfl ?_); at_builtin; refine Kd.R_append_rows (Kd.int .u8) (w0 := w) w.heap.size rfl (.tmp 24) (.tmp 25) 28 5 (.int .u8 0) 1 rfl Tryd.underlying28 info5 rfl (by decide) (by omega) v220 y219 x3_1 _ _ _ (fun k_ => some k_ ≠ (.slice Ao17 x3_1.length co17 : Value).ownBlock) (fun _ => False) rfl rfl ?aO ?aR (fun _ _ h => h) (fun _ h => h.elim) ?aF ?aB ?aS ?aL ?_; (case aR => repeat (first | exact (Kd.R_reads' HO_3.out).2.2 | (with_reducible refine Kd.C_alloc ?_ _) | (with_reducible refine Kd.C_drewN ?_ _) | (with_reducible refine Kd.C_drew ?_))); (case aB => exact (by repeat (first | (with_reducible first | exact HB.out | apply below_alloc | apply pw_below_drewN | apply below_drew1) | exact HB.out))); (case aF => exact (fun k_ hk => Kd.fresh' (Kd.R_lt (by (with_reducible repeat (first | apply Kd.R_alloc | apply Kd.R_drewN | apply Kd.R_drew)); exact HO_3.out)) k_ hk)); (case aO => exact (by (with_reducible repeat (first | apply Kd.R_alloc | apply Kd.R_drewN | apply Kd.R_drew)); exact Kd.R_mono HO221.out (fun _ hk => hk.2))); (case aS => exact (below_size (by repeat (first | (with_reducible first | exact HB.out | apply below_alloc | apply pw_below_drewN | apply below_drew1) | exact HB.out)))); (case aL => have := LMc16.out; first | omega | (simp only [ByteArray.size, List.size_toArray, List.length_cons, List.length_nil] at this ⊢; omega)); intro v223 w20 ho hb hg hat; rw [← Ny222.out] at ho; have n0_ := Aside0.mk (Kd.R_after (ok := (fun _ => True)) (by (with_reducible repeat (first | apply Kd.R_alloc | apply Kd.R_drewN | apply Kd.R_drew)); exact HO_3.out) hg hat); have n1_ := Aside0.mk (hb); have n2_ := Aside0.mk (ho); clear HO_3; clear HB; clear HO221; have HO_3 := n0_; have HB := n1_; have HO224 := n2_; clear n0_ n1_ n2_; clear ho hb hg hat; have hcv21 := own_string (P := Tryd.prog) Tryd.underlying28 Tryd.underlying5 Tryd.underlying9 (Kd.own_of_R HO224.out)))
            go_ret
            exact ⟨by first | rfl | (simp [errW_none, errW_some] <;> rfl) | (simp [*, errW_none, errW_some] <;> rfl), by repeat (first | (with_reducible first | exact HB.out | apply below_alloc | apply pw_below_drewN | apply below_drew1) | exact HB.out)⟩
          · rw [if_neg c16] at H
            exact absurd H (by simp)
end Go.Proofs.YtndeikikeeeigaaDoor.Q
end
section
namespace Go.Proofs.YtndeikikeeeigaaDoor.Q
open Go.RowKit Go.Proofs.YtndeikikeeeigaaDoorW.PrintWords Go.Proofs.YtndeikikeeeigaaDoorW.PrintLast Go.Proofs.YtndeikikeeeigaaDoorW.PrintMore
attribute [local go_sem] max2_int min2_int max_two min_two max_three min_three max_four min_four
set_option linter.unusedVariables false
set_option linter.unusedSimpArgs false
mutual
def plenumref02_ReadSigned.j0 : Nat → Int → ByteArray → Bool → Int → Bool → Option (Int × Int × Bool)
  | 0, _, _, _, _, _ => none
  | k + 1, x1, x7, x8, x9, x22 => if x22 = true then (plenumref02_ReadSigned.j1 k x1 x7 x8 (-1)) else (plenumref02_ReadSigned.j1 k x1 x7 x8 x9)
def plenumref02_ReadSigned.j1 : Nat → Int → ByteArray → Bool → Int → Option (Int × Int × Bool)
  | 0, _, _, _, _ => none
  | k + 1, x1, x7, x8, x9 => plenumref02_ReadSigned.l0 k x1 x7 x8 x9 0
def plenumref02_ReadSigned.l0 : Nat → Int → ByteArray → Bool → Int → Int → Option (Int × Int × Bool)
  | 0, _, _, _, _, _ => none
  | k + 1, x1, x7, x8, x9, x10 => if x10 < (x7.size : Int) then (if 0 ≤ x10 then (plenumref02_ReadSigned.l0 k x1 x7 x8 (Go.bits .or .i64 (wrap64 (x9 * 256)) (wrap64 (bt x7 x10))) (wrap64 (x10 + 1))) else (none)) else (if x8 = true then ((plenumref02_Signed.f k x9).bind fun t227 => (if (t227.size : Int) = (wrap64 ((x7.size : Int) + 1)) then (some (x9, wrap64 ((wrap64 (x1 + 1)) + (x7.size : Int)), true)) else (some (0, 0, false)))) else (some (0, 0, false)))
end
def plenumref02_ReadSigned.f (k : Nat) (a0 : ByteArray) (a1 : Int) : Option (Int × Int × Bool) := (plenumref02_number.f k a0 a1 32).bind fun bt225 => (if bt225.2 = true then (if 0 < (bt225.1.size : Int) then (plenumref02_ReadSigned.j0 k a1 bt225.1 bt225.2 0 (decide ((bt bt225.1 0) ≥ 128))) else (none)) else (plenumref02_ReadSigned.j0 k a1 bt225.1 bt225.2 0 false))
set_option maxHeartbeats 8000000 in
set_option maxRecDepth 100000 in
theorem plenumref02_ReadSigned.calls (k : Nat) (a0 : ByteArray) (a1 : Int) (r1 : Int) (r2 : Int) (r3 : Bool) (w : World) (hG : Glob w) (h : plenumref02_ReadSigned.f k a0 a1 = some (r1, r2, r3)) :
    Calls Tryd.prog 38 #[.string a0, .int .i64 a1] w fun e w' => e = .returned (.tuple #[.int .i64 r1, .int .i64 r2, .bool r3]) ∧ Below w.heap.size w w' := by
  have HG := Aside0.mk hG
  clear hG
  have HB := Aside0.mk (Below.refl w.heap.size w)
  have H : ((plenumref02_number.f k a0 a1 32).bind fun bt225 => (if bt225.2 = true then (if 0 < (bt225.1.size : Int) then (plenumref02_ReadSigned.j0 k a1 bt225.1 bt225.2 0 (decide ((bt bt225.1 0) ≥ 128))) else (none)) else (plenumref02_ReadSigned.j0 k a1 bt225.1 bt225.2 0 false))) = some (r1, r2, r3) := h
  clear h
  replace H := Option.bind_eq_some_iff.mp H
  obtain ⟨⟨t225, t226⟩, A30, H⟩ := H
  replace H : (if t226 = true then (if 0 < (t225.size : Int) then (plenumref02_ReadSigned.j0 k a1 t225 t226 0 (decide ((bt t225 0) ≥ 128))) else (none)) else (plenumref02_ReadSigned.j0 k a1 t225 t226 0 false)) = some (r1, r2, r3) := H
  have A3 := Aside0.mk A30
  clear A30
  have HC4 := Aside0.mk H
  clear H
  go_enter Tryd.func38, Tryd.ntmps38
  go_upto_region 3 with (first | ((with_reducible refine gate_callee (f := 61) rfl ?_); refine goesL_ (some 14) rfl rfl Tryd.func61 (by kernel_rfl) rfl #[.string a0, .int .i64 a1, .int .u8 32] rfl (by (try simp only [List.map_toArray, List.map_cons, List.map_nil]); first | done | rfl | (simp only [List.length_drop, List.length_take]; rfl)) ?_; (with_reducible refine (plenumref02_number.calls k a0 a1 32 t225 t226 _ ?side99  A3.out).mono ?_); (case side99 => first | exact HG.out | exact Glob.below HG.out (by repeat (first | (with_reducible first | exact HB.out | apply below_alloc | apply pw_below_drewN | apply below_drew1) | exact HB.out))); rintro e w' ⟨rfl, ⟨nd, rfl⟩⟩; refine ⟨_, rfl, ?_⟩))
  (try simp only [Act.put, List.setIfInBounds_toArray, List.set_cons_zero, List.set_cons_succ])
  go_cut [22] (fun v22 wc => ∃ (kq : Nat) (x22_3 : Bool), v22 = .bool x22_3 ∧ Aside0 (plenumref02_ReadSigned.j0 kq a1 t225 t226 0 x22_3 = some (r1, r2, r3)) ∧ Aside0 (kq ≤ k) ∧ Aside0 (Below w.heap.size w wc))
  case first =>
    have H := HC4.out
    clear HC4
    by_cases c5 : t226 = true
    · subst c5
      have H1 : (if 0 < (t225.size : Int) then (plenumref02_ReadSigned.j0 k a1 t225 true 0 (decide ((bt t225 0) ≥ 128))) else (none)) = some (r1, r2, r3) := by rw [if_pos rfl] at H; exact H
      clear H
      have H := H1
      clear H1
      by_cases c6 : 0 < (t225.size : Int)
      · rw [if_pos c6] at H
        have c6b0 : decide (0 < (t225.size : Int)) = true := decide_eq_true c6
        have c6b1 : decide (0 < t225.size) = true := decide_eq_true (by omega)
        clear c6
        (first | rw [c6b0] | (simp only [i64_w, i32_w]; rw [c6b0]) | skip)
        have H' := Aside0.mk H
        clear H
        have p7 : 0 ≤ (0 : Int) := (by omega)
        have q7 : 0 < t225.size := (by have : (0 : Int) < (t225.size : Int) := of_decide_eq_true (by first | (with_reducible assumption) | assumption); omega)
        have hx7 : ∀ h : 0 < t225.size, ((t225[0]'h).toNat : Int) = bt t225 0 := bt_at t225 0
        clear p7
        have qi7 : (0 < (t225.size : Int)) = True := eq_true (of_decide_eq_true (by first | (with_reducible assumption) | assumption))
        replace q7 := eq_true q7
        go_wp2
        go_meet
        case rel => exact ⟨_, (decide ((bt t225 0) ≥ 128)), (by first | rfl | (simp; done) | (simp [*]; done)), H', ⟨by first | omega | exact Nat.le_refl _⟩, ⟨by repeat (first | (with_reducible first | exact HB.out | apply below_alloc | apply pw_below_drewN | apply below_drew1) | exact HB.out)⟩⟩
      · rw [if_neg c6] at H
        exact absurd H (by simp)
    · replace c5 := Bool.eq_false_iff.mpr c5
      subst c5
      have H1 : (plenumref02_ReadSigned.j0 k a1 t225 false 0 false) = some (r1, r2, r3) := by rw [if_neg (show ¬ (false = true) by decide)] at H; exact H
      clear H
      have H := H1
      clear H1
      have H' := Aside0.mk H
      clear H
      go_wp2
      go_meet
      case rel => exact ⟨_, (false), (by first | rfl | (simp; done) | (simp [*]; done)), H', ⟨by first | omega | exact Nat.le_refl _⟩, ⟨by repeat (first | (with_reducible first | exact HB.out | apply below_alloc | apply pw_below_drewN | apply below_drew1) | exact HB.out)⟩⟩
  case rest =>
    clear HC4
    try clear p2
    try clear c3
    try clear c5
    try clear c6
    try clear c6b0
    try clear c6b1
    try clear p7
    try clear q7
    try clear hx7
    try clear qi7
    try clear p7
    try clear q7
    obtain ⟨kq, x22_3, rfl, HA, HJ3, HB⟩ := hcut
    cases kq with
    | zero => exact absurd HA.out (by simp [plenumref02_ReadSigned.j0])
    | succ kj3 =>
      have H := HA.out
      clear HA
      simp only [plenumref02_ReadSigned.j0] at H
      have HC8 := Aside0.mk H
      clear H
      go_upto_if 22 with (fail)
      go_cut [9] (fun v9 wc => ∃ (kq : Nat) (x9_7 : Int), v9 = .int .i64 x9_7 ∧ Aside0 (plenumref02_ReadSigned.j1 kq a1 t225 t226 x9_7 = some (r1, r2, r3)) ∧ Aside0 (kq ≤ kj3) ∧ Aside0 (Below w.heap.size w wc))
      case first =>
        have H := HC8.out
        clear HC8
        by_cases c9 : x22_3 = true
        · subst c9
          have H1 : (plenumref02_ReadSigned.j1 kj3 a1 t225 t226 (-1)) = some (r1, r2, r3) := by rw [if_pos rfl] at H; exact H
          clear H
          have H := H1
          clear H1
          have H' := Aside0.mk H
          clear H
          go_wp2
          go_meet
          case rel => exact ⟨_, ((-1)), (by first | rfl | (simp; done) | (simp [*]; done)), H', ⟨by have := HJ3.out; first | omega | exact Nat.le_refl _⟩, ⟨by repeat (first | (with_reducible first | exact HB.out | apply below_alloc | apply pw_below_drewN | apply below_drew1) | exact HB.out)⟩⟩
        · replace c9 := Bool.eq_false_iff.mpr c9
          subst c9
          have H1 : (plenumref02_ReadSigned.j1 kj3 a1 t225 t226 0) = some (r1, r2, r3) := by rw [if_neg (show ¬ (false = true) by decide)] at H; exact H
          clear H
          have H := H1
          clear H1
          have H' := Aside0.mk H
          clear H
          go_wp2
          go_meet
          case rel => exact ⟨_, (0), (by first | rfl | (simp; done) | (simp [*]; done)), H', ⟨by have := HJ3.out; first | omega | exact Nat.le_refl _⟩, ⟨by repeat (first | (with_reducible first | exact HB.out | apply below_alloc | apply pw_below_drewN | apply below_drew1) | exact HB.out)⟩⟩
      case rest =>
        clear HC8
        try clear p2
        try clear c3
        try clear c5
        try clear c6
        try clear c6b0
        try clear c6b1
        try clear p7
        try clear q7
        try clear hx7
        try clear qi7
        try clear c9
        try clear p2
        try clear p7
        try clear q7
        obtain ⟨kq, x9_7, rfl, HA, HJ7, HB⟩ := hcut
        cases kq with
        | zero => exact absurd HA.out (by simp [plenumref02_ReadSigned.j1])
        | succ kj7 =>
          have H := HA.out
          clear HA
          simp only [plenumref02_ReadSigned.j1] at H
          have H' := Aside0.mk H
          clear H
          go_wp2
          go_loopg [9, 10] kj7 (fun kq v9 v10 w' => ∃ (x9_3 : Int) (x10_3 : Int), v9 = .int .i64 x9_3 ∧ v10 = .int .i64 x10_3 ∧ Aside0 (plenumref02_ReadSigned.l0 kq a1 t225 t226 x9_3 x10_3 = some (r1, r2, r3)) ∧ Aside0 (kq ≤ kj7) ∧ Aside0 (Below w.heap.size w w'))
          case atStart => exact ⟨(x9_7), (0), (by first | rfl | (simp; done) | (simp [*]; done)), (by first | rfl | (simp; done) | (simp [*]; done)), H', ⟨Nat.le_refl _⟩, ⟨by repeat (first | (with_reducible first | exact HB.out | apply below_alloc | apply pw_below_drewN | apply below_drew1) | exact HB.out)⟩⟩
          case round =>
            clear H'
            try clear p2
            try clear c3
            try clear c5
            try clear c6
            try clear c6b0
            try clear c6b1
            try clear p7
            try clear q7
            try clear hx7
            try clear qi7
            try clear c9
            try clear p2
            try clear p7
            try clear q7
            obtain ⟨x9_3, x10_3, rfl, rfl, HA, HK3, HB⟩ := hrel
            cases gk with
            | zero => exact absurd HA.out (by simp [plenumref02_ReadSigned.l0])
            | succ k3 =>
              have H := HA.out
              clear HA
              simp only [plenumref02_ReadSigned.l0] at H
              by_cases c10 : x10_3 < (t225.size : Int)
              · rw [if_pos c10] at H
                have c10b0 : decide (x10_3 < (t225.size : Int)) = true := decide_eq_true c10
                clear c10
                by_cases c11 : 0 ≤ x10_3
                · rw [if_pos c11] at H
                  have c11b0 : decide (0 ≤ x10_3) = true := decide_eq_true c11
                  clear c11
                  have H' := Aside0.mk H
                  clear H
                  have p12 : 0 ≤ (x10_3 : Int) := of_decide_eq_true (by first | (with_reducible assumption) | assumption)
                  have q12 : x10_3 < (t225.size : Int) := of_decide_eq_true (by first | (with_reducible assumption) | assumption)
                  have hx12 := bt_at t225 x10_3
                  replace p12 := eq_true p12
                  replace q12 := eq_true q12
                  go_wp2
                  go_roundg k3
                  case measure => have := HJ3.out; have := HJ7.out; have := HK3.out; omega
                  case rel => exact ⟨(Go.bits .or .i64 (wrap64 (x9_3 * 256)) (wrap64 (bt t225 x10_3))), (wrap64 (x10_3 + 1)), (by first | rfl | (simp; done) | (simp [*]; done)), (by first | rfl | (simp; done) | (simp [*]; done)), H', ⟨by have := HJ3.out; have := HJ7.out; have := HK3.out; omega⟩, ⟨by repeat (first | (with_reducible first | exact HB.out | apply below_alloc | apply pw_below_drewN | apply below_drew1) | exact HB.out)⟩⟩
                · rw [if_neg c11] at H
                  exact absurd H (by simp)
              · rw [if_neg c10] at H
                have c10b0 : decide (x10_3 < (t225.size : Int)) = false := decide_eq_false c10
                clear c10
                by_cases c13 : t226 = true
                · subst c13
                  have H1 : ((plenumref02_Signed.f k3 x9_3).bind fun t227 => (if (t227.size : Int) = (wrap64 ((t225.size : Int) + 1)) then (some (x9_3, wrap64 ((wrap64 (a1 + 1)) + (t225.size : Int)), true)) else (some (0, 0, false)))) = some (r1, r2, r3) := by rw [if_pos rfl] at H; exact H
                  clear H
                  have H := H1
                  clear H1
                  replace H := Option.bind_eq_some_iff.mp H
                  obtain ⟨t227, A140, H⟩ := H
                  replace H : (if (t227.size : Int) = (wrap64 ((t225.size : Int) + 1)) then (some (x9_3, wrap64 ((wrap64 (a1 + 1)) + (t225.size : Int)), true)) else (some (0, 0, false))) = some (r1, r2, r3) := H
                  have A14 := Aside0.mk A140
                  clear A140
                  by_cases c15 : (t227.size : Int) = (wrap64 ((t225.size : Int) + 1))
                  · rw [if_pos c15] at H
                    have c15b0 : ((t227.size : Int) == (wrap64 ((t225.size : Int) + 1))) = true := beq_iff_eq.mpr c15
                    have c15b1 : ((t227.size : Int) != (wrap64 ((t225.size : Int) + 1))) = false := bne_eq_false_iff_eq.mpr c15
                    clear c15
                    simp only [Option.some.injEq, Prod.mk.injEq] at H
                    obtain ⟨rfl, rfl, rfl⟩ := H
                    go_wp2_with (first | (go_at_call 46; (with_reducible refine (plenumref02_Signed.calls k3 x9_3 t227 _ ?side99  A14.out).mono ?_); (case side99 => first | exact HG.out | exact Glob.below HG.out (by repeat (first | (with_reducible first | exact HB.out | apply below_alloc | apply pw_below_drewN | apply below_drew1) | exact HB.out))); rintro e w16 ⟨rfl, hb⟩; have n0_ := Aside0.mk (below_step (by repeat (first | (with_reducible first | exact HB.out | apply below_alloc | apply pw_below_drewN | apply below_drew1) | exact HB.out)) hb); clear HB; have HB := n0_; clear n0_; (try clear hb); (try clear hb2); (try clear hk); (try clear hi)))
                    go_ret3
                    exact ⟨by first | rfl | (simp [errW_none, errW_some] <;> rfl) | (simp [*, errW_none, errW_some] <;> rfl), by repeat (first | (with_reducible first | exact HB.out | apply below_alloc | apply pw_below_drewN | apply below_drew1) | exact HB.out)⟩
                  · rw [if_neg c15] at H
                    have c15b0 : ((t227.size : Int) == (wrap64 ((t225.size : Int) + 1))) = false := beq_eq_false_iff_ne.mpr c15
                    have c15b1 : ((t227.size : Int) != (wrap64 ((t225.size : Int) + 1))) = true := bne_iff_ne.mpr c15
                    simp only [Option.some.injEq, Prod.mk.injEq] at H
                    obtain ⟨rfl, rfl, rfl⟩ := H
                    go_wp2_with (first | (go_at_call 46; (with_reducible refine (plenumref02_Signed.calls k3 x9_3 t227 _ ?side99  A14.out).mono ?_); (case side99 => first | exact HG.out | exact Glob.below HG.out (by repeat (first | (with_reducible first | exact HB.out | apply below_alloc | apply pw_below_drewN | apply below_drew1) | exact HB.out))); rintro e w17 ⟨rfl, hb⟩; have n0_ := Aside0.mk (below_step (by repeat (first | (with_reducible first | exact HB.out | apply below_alloc | apply pw_below_drewN | apply below_drew1) | exact HB.out)) hb); clear HB; have HB := n0_; clear n0_; (try clear hb); (try clear hb2); (try clear hk); (try clear hi)))
                    go_ret3
                    exact ⟨by first | rfl | (simp [errW_none, errW_some] <;> rfl) | (simp [*, errW_none, errW_some] <;> rfl), by repeat (first | (with_reducible first | exact HB.out | apply below_alloc | apply pw_below_drewN | apply below_drew1) | exact HB.out)⟩
                · replace c13 := Bool.eq_false_iff.mpr c13
                  subst c13
                  have H1 : (some (0, 0, false)) = some (r1, r2, r3) := by rw [if_neg (show ¬ (false = true) by decide)] at H; exact H
                  clear H
                  have H := H1
                  clear H1
                  simp only [Option.some.injEq, Prod.mk.injEq] at H
                  obtain ⟨rfl, rfl, rfl⟩ := H
                  go_wp2
                  go_ret3
                  exact ⟨by first | rfl | (simp [errW_none, errW_some] <;> rfl) | (simp [*, errW_none, errW_some] <;> rfl), by repeat (first | (with_reducible first | exact HB.out | apply below_alloc | apply pw_below_drewN | apply below_drew1) | exact HB.out)⟩
end Go.Proofs.YtndeikikeeeigaaDoor.Q
end
section
namespace Go.Proofs.YtndeikikeeeigaaDoor.Q
open Go.RowKit Go.Proofs.YtndeikikeeeigaaDoorW.PrintWords Go.Proofs.YtndeikikeeeigaaDoorW.PrintLast Go.Proofs.YtndeikikeeeigaaDoorW.PrintMore
attribute [local go_sem] max2_int min2_int max_two min_two max_three min_three max_four min_four
set_option linter.unusedVariables false
set_option linter.unusedSimpArgs false
def plenumref02_ReadText.j0 : Nat → ByteArray → Int → Bool → Option (ByteArray × Int × Bool)
  | 0, _, _, _ => none
  | k + 1, x0, x1, x19 => if x19 = true then (some ((⟨#[]⟩ : ByteArray), 0, false)) else ((plenumref02_ReadUnsigned.f k x0 (wrap64 (x1 + 1))).bind fun bt228 => (if bt228.2.2 = true then (if bt228.1 > 65535 then (some ((⟨#[]⟩ : ByteArray), 0, false)) else (if (wrap64 (bt228.1)) > (wrap64 ((x0.size : Int) - bt228.2.1)) then (some ((⟨#[]⟩ : ByteArray), 0, false)) else (if 0 ≤ bt228.2.1 then (if bt228.2.1 ≤ (wrap64 (bt228.2.1 + (wrap64 (bt228.1)))) then (if (wrap64 (bt228.2.1 + (wrap64 (bt228.1)))) ≤ (x0.size : Int) then (some (x0.extract (bt228.2.1 : Int).toNat ((wrap64 (bt228.2.1 + (wrap64 (bt228.1)))) : Int).toNat, wrap64 (bt228.2.1 + (wrap64 (bt228.1))), true)) else (none)) else (none)) else (none)))) else (some ((⟨#[]⟩ : ByteArray), 0, false))))
def plenumref02_ReadText.f (k : Nat) (a0 : ByteArray) (a1 : Int) : Option (ByteArray × Int × Bool) := if a1 ≥ (a0.size : Int) then (plenumref02_ReadText.j0 k a0 a1 true) else (if 0 ≤ a1 then (if a1 < (a0.size : Int) then (plenumref02_ReadText.j0 k a0 a1 ((bt a0 a1) != 48)) else (none)) else (none))
set_option maxHeartbeats 8000000 in
set_option maxRecDepth 100000 in
theorem plenumref02_ReadText.calls (k : Nat) (a0 : ByteArray) (a1 : Int) (r1 : ByteArray) (r2 : Int) (r3 : Bool) (w : World) (hG : Glob w) (h : plenumref02_ReadText.f k a0 a1 = some (r1, r2, r3)) :
    Calls Tryd.prog 39 #[.string a0, .int .i64 a1] w fun e w' => e = .returned (.tuple #[.string r1, .int .i64 r2, .bool r3]) ∧ Below w.heap.size w w' := by
  have HG := Aside0.mk hG
  clear hG
  have HB := Aside0.mk (Below.refl w.heap.size w)
  have H : (if a1 ≥ (a0.size : Int) then (plenumref02_ReadText.j0 k a0 a1 true) else (if 0 ≤ a1 then (if a1 < (a0.size : Int) then (plenumref02_ReadText.j0 k a0 a1 ((bt a0 a1) != 48)) else (none)) else (none))) = some (r1, r2, r3) := h
  clear h
  have HC3 := Aside0.mk H
  clear H
  go_enter Tryd.func39, Tryd.ntmps39
  go_upto_region 1 with (fail)
  go_cut [19] (fun v19 wc => ∃ (kq : Nat) (x19_2 : Bool), v19 = .bool x19_2 ∧ Aside0 (plenumref02_ReadText.j0 kq a0 a1 x19_2 = some (r1, r2, r3)) ∧ Aside0 (kq ≤ k) ∧ Aside0 (Below w.heap.size w wc))
  case first =>
    have H := HC3.out
    clear HC3
    by_cases c4 : a1 ≥ (a0.size : Int)
    · rw [if_pos c4] at H
      have c4b0 : decide ((a0.size : Int) ≤ a1) = true := decide_eq_true c4
      clear c4
      (first | rw [c4b0] | (simp only [i64_w, i32_w]; rw [c4b0]) | skip)
      have H' := Aside0.mk H
      clear H
      go_wp2
      go_meet
      case rel => exact ⟨_, (true), (by first | rfl | (simp; done) | (simp [*]; done)), H', ⟨by first | omega | exact Nat.le_refl _⟩, ⟨by repeat (first | (with_reducible first | exact HB.out | apply below_alloc | apply pw_below_drewN | apply below_drew1) | exact HB.out)⟩⟩
    · rw [if_neg c4] at H
      have c4b0 : decide ((a0.size : Int) ≤ a1) = false := decide_eq_false c4
      clear c4
      (first | rw [c4b0] | (simp only [i64_w, i32_w]; rw [c4b0]) | skip)
      by_cases c5 : 0 ≤ a1
      · rw [if_pos c5] at H
        have c5b0 : decide (0 ≤ a1) = true := decide_eq_true c5
        clear c5
        by_cases c6 : a1 < (a0.size : Int)
        · rw [if_pos c6] at H
          have c6b0 : decide (a1 < (a0.size : Int)) = true := decide_eq_true c6
          clear c6
          have H' := Aside0.mk H
          clear H
          have p7 : 0 ≤ (a1 : Int) := of_decide_eq_true (by first | (with_reducible assumption) | assumption)
          have q7 : a1 < (a0.size : Int) := of_decide_eq_true (by first | (with_reducible assumption) | assumption)
          have hx7 := bt_at a0 a1
          replace p7 := eq_true p7
          replace q7 := eq_true q7
          go_wp2
          go_meet
          case rel => exact ⟨_, (((bt a0 a1) != 48)), (by first | rfl | (simp; done) | (simp [*]; done)), H', ⟨by first | omega | exact Nat.le_refl _⟩, ⟨by repeat (first | (with_reducible first | exact HB.out | apply below_alloc | apply pw_below_drewN | apply below_drew1) | exact HB.out)⟩⟩
        · rw [if_neg c6] at H
          exact absurd H (by simp)
      · rw [if_neg c5] at H
        exact absurd H (by simp)
  case rest =>
    clear HC3
    try clear p2
    try clear c3
    try clear c4
    try clear c4b0
    try clear c5
    try clear c5b0
    try clear c6
    try clear c6b0
    try clear p7
    try clear q7
    try clear hx7
    try clear p7
    try clear q7
    obtain ⟨kq, x19_2, rfl, HA, HJ2, HB⟩ := hcut
    cases kq with
    | zero => exact absurd HA.out (by simp [plenumref02_ReadText.j0])
    | succ kj2 =>
      have H := HA.out
      clear HA
      simp only [plenumref02_ReadText.j0] at H
      by_cases c8 : x19_2 = true
      · subst c8
        have H1 : (some ((⟨#[]⟩ : ByteArray), 0, false)) = some (r1, r2, r3) := by rw [if_pos rfl] at H; exact H
        clear H
        have H := H1
        clear H1
        simp only [Option.some.injEq, Prod.mk.injEq] at H
        obtain ⟨rfl, rfl, rfl⟩ := H
        go_wp2
        go_ret3
        exact ⟨by first | rfl | (simp [errW_none, errW_some] <;> rfl) | (simp [*, errW_none, errW_some] <;> rfl), by repeat (first | (with_reducible first | exact HB.out | apply below_alloc | apply pw_below_drewN | apply below_drew1) | exact HB.out)⟩
      · replace c8 := Bool.eq_false_iff.mpr c8
        subst c8
        have H1 : ((plenumref02_ReadUnsigned.f kj2 a0 (wrap64 (a1 + 1))).bind fun bt228 => (if bt228.2.2 = true then (if bt228.1 > 65535 then (some ((⟨#[]⟩ : ByteArray), 0, false)) else (if (wrap64 (bt228.1)) > (wrap64 ((a0.size : Int) - bt228.2.1)) then (some ((⟨#[]⟩ : ByteArray), 0, false)) else (if 0 ≤ bt228.2.1 then (if bt228.2.1 ≤ (wrap64 (bt228.2.1 + (wrap64 (bt228.1)))) then (if (wrap64 (bt228.2.1 + (wrap64 (bt228.1)))) ≤ (a0.size : Int) then (some (a0.extract (bt228.2.1 : Int).toNat ((wrap64 (bt228.2.1 + (wrap64 (bt228.1)))) : Int).toNat, wrap64 (bt228.2.1 + (wrap64 (bt228.1))), true)) else (none)) else (none)) else (none)))) else (some ((⟨#[]⟩ : ByteArray), 0, false)))) = some (r1, r2, r3) := by rw [if_neg (show ¬ (false = true) by decide)] at H; exact H
        clear H
        have H := H1
        clear H1
        replace H := Option.bind_eq_some_iff.mp H
        obtain ⟨⟨t228, t229, t230⟩, A90, H⟩ := H
        replace H : (if t230 = true then (if t228 > 65535 then (some ((⟨#[]⟩ : ByteArray), 0, false)) else (if (wrap64 (t228)) > (wrap64 ((a0.size : Int) - t229)) then (some ((⟨#[]⟩ : ByteArray), 0, false)) else (if 0 ≤ t229 then (if t229 ≤ (wrap64 (t229 + (wrap64 (t228)))) then (if (wrap64 (t229 + (wrap64 (t228)))) ≤ (a0.size : Int) then (some (a0.extract (t229 : Int).toNat ((wrap64 (t229 + (wrap64 (t228)))) : Int).toNat, wrap64 (t229 + (wrap64 (t228))), true)) else (none)) else (none)) else (none)))) else (some ((⟨#[]⟩ : ByteArray), 0, false))) = some (r1, r2, r3) := H
        have A9 := Aside0.mk A90
        clear A90
        by_cases c10 : t230 = true
        · subst c10
          have H1 : (if t228 > 65535 then (some ((⟨#[]⟩ : ByteArray), 0, false)) else (if (wrap64 (t228)) > (wrap64 ((a0.size : Int) - t229)) then (some ((⟨#[]⟩ : ByteArray), 0, false)) else (if 0 ≤ t229 then (if t229 ≤ (wrap64 (t229 + (wrap64 (t228)))) then (if (wrap64 (t229 + (wrap64 (t228)))) ≤ (a0.size : Int) then (some (a0.extract (t229 : Int).toNat ((wrap64 (t229 + (wrap64 (t228)))) : Int).toNat, wrap64 (t229 + (wrap64 (t228))), true)) else (none)) else (none)) else (none)))) = some (r1, r2, r3) := by rw [if_pos rfl] at H; exact H
          clear H
          have H := H1
          clear H1
          by_cases c11 : t228 > 65535
          · rw [if_pos c11] at H
            have c11b0 : decide (65535 < t228) = true := decide_eq_true c11
            clear c11
            simp only [Option.some.injEq, Prod.mk.injEq] at H
            obtain ⟨rfl, rfl, rfl⟩ := H
            go_wp2_with (first | ((with_reducible refine gate_callee (f := 37) rfl ?_); refine goesL_ (some 24) rfl rfl Tryd.func37 (by kernel_rfl) rfl #[.string a0, .int .i64 (wrap64 (a1 + 1))] rfl (by (try simp only [List.map_toArray, List.map_cons, List.map_nil]); first | done | rfl | (simp only [List.length_drop, List.length_take]; rfl)) ?_; (with_reducible refine (plenumref02_ReadUnsigned.calls kj2 a0 (wrap64 (a1 + 1)) t228 t229 true _ ?side99  A9.out).mono ?_); (case side99 => first | exact HG.out | exact Glob.below HG.out (by repeat (first | (with_reducible first | exact HB.out | apply below_alloc | apply pw_below_drewN | apply below_drew1) | exact HB.out))); rintro e w12 ⟨rfl, hb⟩; refine ⟨_, rfl, ?_⟩; have n0_ := Aside0.mk (below_step (by repeat (first | (with_reducible first | exact HB.out | apply below_alloc | apply pw_below_drewN | apply below_drew1) | exact HB.out)) hb); clear HB; have HB := n0_; clear n0_; (try clear hb); (try clear hb2); (try clear hk); (try clear hi)))
            go_ret3
            exact ⟨by first | rfl | (simp [errW_none, errW_some] <;> rfl) | (simp [*, errW_none, errW_some] <;> rfl), by repeat (first | (with_reducible first | exact HB.out | apply below_alloc | apply pw_below_drewN | apply below_drew1) | exact HB.out)⟩
          · rw [if_neg c11] at H
            have c11b0 : decide (65535 < t228) = false := decide_eq_false c11
            clear c11
            by_cases c13 : (wrap64 (t228)) > (wrap64 ((a0.size : Int) - t229))
            · rw [if_pos c13] at H
              have c13b0 : decide ((wrap64 ((a0.size : Int) - t229)) < (wrap64 (t228))) = true := decide_eq_true c13
              clear c13
              simp only [Option.some.injEq, Prod.mk.injEq] at H
              obtain ⟨rfl, rfl, rfl⟩ := H
              go_wp2_with (first | ((with_reducible refine gate_callee (f := 37) rfl ?_); refine goesL_ (some 24) rfl rfl Tryd.func37 (by kernel_rfl) rfl #[.string a0, .int .i64 (wrap64 (a1 + 1))] rfl (by (try simp only [List.map_toArray, List.map_cons, List.map_nil]); first | done | rfl | (simp only [List.length_drop, List.length_take]; rfl)) ?_; (with_reducible refine (plenumref02_ReadUnsigned.calls kj2 a0 (wrap64 (a1 + 1)) t228 t229 true _ ?side99  A9.out).mono ?_); (case side99 => first | exact HG.out | exact Glob.below HG.out (by repeat (first | (with_reducible first | exact HB.out | apply below_alloc | apply pw_below_drewN | apply below_drew1) | exact HB.out))); rintro e w14 ⟨rfl, hb⟩; refine ⟨_, rfl, ?_⟩; have n0_ := Aside0.mk (below_step (by repeat (first | (with_reducible first | exact HB.out | apply below_alloc | apply pw_below_drewN | apply below_drew1) | exact HB.out)) hb); clear HB; have HB := n0_; clear n0_; (try clear hb); (try clear hb2); (try clear hk); (try clear hi)))
              go_ret3
              exact ⟨by first | rfl | (simp [errW_none, errW_some] <;> rfl) | (simp [*, errW_none, errW_some] <;> rfl), by repeat (first | (with_reducible first | exact HB.out | apply below_alloc | apply pw_below_drewN | apply below_drew1) | exact HB.out)⟩
            · rw [if_neg c13] at H
              have c13b0 : decide ((wrap64 ((a0.size : Int) - t229)) < (wrap64 (t228))) = false := decide_eq_false c13
              clear c13
              by_cases c15 : 0 ≤ t229
              · rw [if_pos c15] at H
                have c15b0 := eq_true c15
                have c15b1 : decide (0 ≤ t229) = true := decide_eq_true c15
                clear c15
                by_cases c16 : t229 ≤ (wrap64 (t229 + (wrap64 (t228))))
                · rw [if_pos c16] at H
                  have c16b0 := eq_true c16
                  have c16b1 : decide (t229 ≤ (wrap64 (t229 + (wrap64 (t228))))) = true := decide_eq_true c16
                  by_cases c17 : (wrap64 (t229 + (wrap64 (t228)))) ≤ (a0.size : Int)
                  · rw [if_pos c17] at H
                    have c17b0 := eq_true c17
                    have c17b1 : decide ((wrap64 (t229 + (wrap64 (t228)))) ≤ (a0.size : Int)) = true := decide_eq_true c17
                    simp only [Option.some.injEq, Prod.mk.injEq] at H
                    obtain ⟨rfl, rfl, rfl⟩ := H
                    go_wp2_with (first | ((with_reducible refine gate_callee (f := 37) rfl ?_); refine goesL_ (some 24) rfl rfl Tryd.func37 (by kernel_rfl) rfl #[.string a0, .int .i64 (wrap64 (a1 + 1))] rfl (by (try simp only [List.map_toArray, List.map_cons, List.map_nil]); first | done | rfl | (simp only [List.length_drop, List.length_take]; rfl)) ?_; (with_reducible refine (plenumref02_ReadUnsigned.calls kj2 a0 (wrap64 (a1 + 1)) t228 t229 true _ ?side99  A9.out).mono ?_); (case side99 => first | exact HG.out | exact Glob.below HG.out (by repeat (first | (with_reducible first | exact HB.out | apply below_alloc | apply pw_below_drewN | apply below_drew1) | exact HB.out))); rintro e w18 ⟨rfl, hb⟩; refine ⟨_, rfl, ?_⟩; have n0_ := Aside0.mk (below_step (by repeat (first | (with_reducible first | exact HB.out | apply below_alloc | apply pw_below_drewN | apply below_drew1) | exact HB.out)) hb); clear HB; have HB := n0_; clear n0_; (try clear hb); (try clear hb2); (try clear hk); (try clear hi)))
                    go_ret3
                    exact ⟨by first | rfl | (simp [errW_none, errW_some] <;> rfl) | (simp [*, errW_none, errW_some] <;> rfl), by repeat (first | (with_reducible first | exact HB.out | apply below_alloc | apply pw_below_drewN | apply below_drew1) | exact HB.out)⟩
                  · rw [if_neg c17] at H
                    exact absurd H (by simp)
                · rw [if_neg c16] at H
                  exact absurd H (by simp)
              · rw [if_neg c15] at H
                exact absurd H (by simp)
        · replace c10 := Bool.eq_false_iff.mpr c10
          subst c10
          have H1 : (some ((⟨#[]⟩ : ByteArray), 0, false)) = some (r1, r2, r3) := by rw [if_neg (show ¬ (false = true) by decide)] at H; exact H
          clear H
          have H := H1
          clear H1
          simp only [Option.some.injEq, Prod.mk.injEq] at H
          obtain ⟨rfl, rfl, rfl⟩ := H
          go_wp2_with (first | ((with_reducible refine gate_callee (f := 37) rfl ?_); refine goesL_ (some 24) rfl rfl Tryd.func37 (by kernel_rfl) rfl #[.string a0, .int .i64 (wrap64 (a1 + 1))] rfl (by (try simp only [List.map_toArray, List.map_cons, List.map_nil]); first | done | rfl | (simp only [List.length_drop, List.length_take]; rfl)) ?_; (with_reducible refine (plenumref02_ReadUnsigned.calls kj2 a0 (wrap64 (a1 + 1)) t228 t229 false _ ?side99  A9.out).mono ?_); (case side99 => first | exact HG.out | exact Glob.below HG.out (by repeat (first | (with_reducible first | exact HB.out | apply below_alloc | apply pw_below_drewN | apply below_drew1) | exact HB.out))); rintro e w19 ⟨rfl, hb⟩; refine ⟨_, rfl, ?_⟩; have n0_ := Aside0.mk (below_step (by repeat (first | (with_reducible first | exact HB.out | apply below_alloc | apply pw_below_drewN | apply below_drew1) | exact HB.out)) hb); clear HB; have HB := n0_; clear n0_; (try clear hb); (try clear hb2); (try clear hk); (try clear hi)))
          go_ret3
          exact ⟨by first | rfl | (simp [errW_none, errW_some] <;> rfl) | (simp [*, errW_none, errW_some] <;> rfl), by repeat (first | (with_reducible first | exact HB.out | apply below_alloc | apply pw_below_drewN | apply below_drew1) | exact HB.out)⟩
end Go.Proofs.YtndeikikeeeigaaDoor.Q
end
section
namespace Go.Proofs.YtndeikikeeeigaaDoor.Q
open Go.RowKit Go.Proofs.YtndeikikeeeigaaDoorW.PrintWords Go.Proofs.YtndeikikeeeigaaDoorW.PrintLast Go.Proofs.YtndeikikeeeigaaDoorW.PrintMore
attribute [local go_sem] max2_int min2_int max_two min_two max_three min_three max_four min_four
set_option linter.unusedVariables false
set_option linter.unusedSimpArgs false
def plenumref02_ReadHead.j0 : Nat → ByteArray → Int → Bool → Option (Int × Int × Bool)
  | 0, _, _, _ => none
  | k + 1, x0, x1, x19 => if x19 = true then (some (0, 0, false)) else ((plenumref02_ReadUnsigned.f k x0 (wrap64 (x1 + 1))).bind fun bt231 => (if bt231.2.2 = true then (if bt231.1 > 65535 then (some (0, 0, false)) else (some (wrap64 (bt231.1), bt231.2.1, true))) else (some (0, 0, false))))
def plenumref02_ReadHead.f (k : Nat) (a0 : ByteArray) (a1 : Int) : Option (Int × Int × Bool) := if a1 ≥ (a0.size : Int) then (plenumref02_ReadHead.j0 k a0 a1 true) else (if 0 ≤ a1 then (if a1 < (a0.size : Int) then (plenumref02_ReadHead.j0 k a0 a1 ((bt a0 a1) != 64)) else (none)) else (none))
set_option maxHeartbeats 8000000 in
set_option maxRecDepth 100000 in
theorem plenumref02_ReadHead.calls (k : Nat) (a0 : ByteArray) (a1 : Int) (r1 : Int) (r2 : Int) (r3 : Bool) (w : World) (hG : Glob w) (h : plenumref02_ReadHead.f k a0 a1 = some (r1, r2, r3)) :
    Calls Tryd.prog 40 #[.string a0, .int .i64 a1] w fun e w' => e = .returned (.tuple #[.int .i64 r1, .int .i64 r2, .bool r3]) ∧ Below w.heap.size w w' := by
  have HG := Aside0.mk hG
  clear hG
  have HB := Aside0.mk (Below.refl w.heap.size w)
  have H : (if a1 ≥ (a0.size : Int) then (plenumref02_ReadHead.j0 k a0 a1 true) else (if 0 ≤ a1 then (if a1 < (a0.size : Int) then (plenumref02_ReadHead.j0 k a0 a1 ((bt a0 a1) != 64)) else (none)) else (none))) = some (r1, r2, r3) := h
  clear h
  have HC3 := Aside0.mk H
  clear H
  go_enter Tryd.func40, Tryd.ntmps40
  go_upto_region 1 with (fail)
  go_cut [19] (fun v19 wc => ∃ (kq : Nat) (x19_2 : Bool), v19 = .bool x19_2 ∧ Aside0 (plenumref02_ReadHead.j0 kq a0 a1 x19_2 = some (r1, r2, r3)) ∧ Aside0 (kq ≤ k) ∧ Aside0 (Below w.heap.size w wc))
  case first =>
    have H := HC3.out
    clear HC3
    by_cases c4 : a1 ≥ (a0.size : Int)
    · rw [if_pos c4] at H
      have c4b0 : decide ((a0.size : Int) ≤ a1) = true := decide_eq_true c4
      clear c4
      (first | rw [c4b0] | (simp only [i64_w, i32_w]; rw [c4b0]) | skip)
      have H' := Aside0.mk H
      clear H
      go_wp2
      go_meet
      case rel => exact ⟨_, (true), (by first | rfl | (simp; done) | (simp [*]; done)), H', ⟨by first | omega | exact Nat.le_refl _⟩, ⟨by repeat (first | (with_reducible first | exact HB.out | apply below_alloc | apply pw_below_drewN | apply below_drew1) | exact HB.out)⟩⟩
    · rw [if_neg c4] at H
      have c4b0 : decide ((a0.size : Int) ≤ a1) = false := decide_eq_false c4
      clear c4
      (first | rw [c4b0] | (simp only [i64_w, i32_w]; rw [c4b0]) | skip)
      by_cases c5 : 0 ≤ a1
      · rw [if_pos c5] at H
        have c5b0 : decide (0 ≤ a1) = true := decide_eq_true c5
        clear c5
        by_cases c6 : a1 < (a0.size : Int)
        · rw [if_pos c6] at H
          have c6b0 : decide (a1 < (a0.size : Int)) = true := decide_eq_true c6
          clear c6
          have H' := Aside0.mk H
          clear H
          have p7 : 0 ≤ (a1 : Int) := of_decide_eq_true (by first | (with_reducible assumption) | assumption)
          have q7 : a1 < (a0.size : Int) := of_decide_eq_true (by first | (with_reducible assumption) | assumption)
          have hx7 := bt_at a0 a1
          replace p7 := eq_true p7
          replace q7 := eq_true q7
          go_wp2
          go_meet
          case rel => exact ⟨_, (((bt a0 a1) != 64)), (by first | rfl | (simp; done) | (simp [*]; done)), H', ⟨by first | omega | exact Nat.le_refl _⟩, ⟨by repeat (first | (with_reducible first | exact HB.out | apply below_alloc | apply pw_below_drewN | apply below_drew1) | exact HB.out)⟩⟩
        · rw [if_neg c6] at H
          exact absurd H (by simp)
      · rw [if_neg c5] at H
        exact absurd H (by simp)
  case rest =>
    clear HC3
    try clear p2
    try clear c4
    try clear c4b0
    try clear c5
    try clear c5b0
    try clear c6
    try clear c6b0
    try clear p7
    try clear q7
    try clear hx7
    try clear p7
    try clear q7
    obtain ⟨kq, x19_2, rfl, HA, HJ2, HB⟩ := hcut
    cases kq with
    | zero => exact absurd HA.out (by simp [plenumref02_ReadHead.j0])
    | succ kj2 =>
      have H := HA.out
      clear HA
      simp only [plenumref02_ReadHead.j0] at H
      by_cases c8 : x19_2 = true
      · subst c8
        have H1 : (some (0, 0, false)) = some (r1, r2, r3) := by rw [if_pos rfl] at H; exact H
        clear H
        have H := H1
        clear H1
        simp only [Option.some.injEq, Prod.mk.injEq] at H
        obtain ⟨rfl, rfl, rfl⟩ := H
        go_wp2
        go_ret3
        exact ⟨by first | rfl | (simp [errW_none, errW_some] <;> rfl) | (simp [*, errW_none, errW_some] <;> rfl), by repeat (first | (with_reducible first | exact HB.out | apply below_alloc | apply pw_below_drewN | apply below_drew1) | exact HB.out)⟩
      · replace c8 := Bool.eq_false_iff.mpr c8
        subst c8
        have H1 : ((plenumref02_ReadUnsigned.f kj2 a0 (wrap64 (a1 + 1))).bind fun bt231 => (if bt231.2.2 = true then (if bt231.1 > 65535 then (some (0, 0, false)) else (some (wrap64 (bt231.1), bt231.2.1, true))) else (some (0, 0, false)))) = some (r1, r2, r3) := by rw [if_neg (show ¬ (false = true) by decide)] at H; exact H
        clear H
        have H := H1
        clear H1
        replace H := Option.bind_eq_some_iff.mp H
        obtain ⟨⟨t231, t232, t233⟩, A90, H⟩ := H
        replace H : (if t233 = true then (if t231 > 65535 then (some (0, 0, false)) else (some (wrap64 (t231), t232, true))) else (some (0, 0, false))) = some (r1, r2, r3) := H
        have A9 := Aside0.mk A90
        clear A90
        by_cases c10 : t233 = true
        · subst c10
          have H1 : (if t231 > 65535 then (some (0, 0, false)) else (some (wrap64 (t231), t232, true))) = some (r1, r2, r3) := by rw [if_pos rfl] at H; exact H
          clear H
          have H := H1
          clear H1
          by_cases c11 : t231 > 65535
          · rw [if_pos c11] at H
            have c11b0 : decide (65535 < t231) = true := decide_eq_true c11
            clear c11
            simp only [Option.some.injEq, Prod.mk.injEq] at H
            obtain ⟨rfl, rfl, rfl⟩ := H
            go_wp2_with (first | ((with_reducible refine gate_callee (f := 37) rfl ?_); refine goesL_ (some 24) rfl rfl Tryd.func37 (by kernel_rfl) rfl #[.string a0, .int .i64 (wrap64 (a1 + 1))] rfl (by (try simp only [List.map_toArray, List.map_cons, List.map_nil]); first | done | rfl | (simp only [List.length_drop, List.length_take]; rfl)) ?_; (with_reducible refine (plenumref02_ReadUnsigned.calls kj2 a0 (wrap64 (a1 + 1)) t231 t232 true _ ?side99  A9.out).mono ?_); (case side99 => first | exact HG.out | exact Glob.below HG.out (by repeat (first | (with_reducible first | exact HB.out | apply below_alloc | apply pw_below_drewN | apply below_drew1) | exact HB.out))); rintro e w12 ⟨rfl, hb⟩; refine ⟨_, rfl, ?_⟩; have n0_ := Aside0.mk (below_step (by repeat (first | (with_reducible first | exact HB.out | apply below_alloc | apply pw_below_drewN | apply below_drew1) | exact HB.out)) hb); clear HB; have HB := n0_; clear n0_; (try clear hb); (try clear hb2); (try clear hk); (try clear hi)))
            go_ret3
            exact ⟨by first | rfl | (simp [errW_none, errW_some] <;> rfl) | (simp [*, errW_none, errW_some] <;> rfl), by repeat (first | (with_reducible first | exact HB.out | apply below_alloc | apply pw_below_drewN | apply below_drew1) | exact HB.out)⟩
          · rw [if_neg c11] at H
            have c11b0 : decide (65535 < t231) = false := decide_eq_false c11
            clear c11
            simp only [Option.some.injEq, Prod.mk.injEq] at H
            obtain ⟨rfl, rfl, rfl⟩ := H
            go_wp2_with (first | ((with_reducible refine gate_callee (f := 37) rfl ?_); refine goesL_ (some 24) rfl rfl Tryd.func37 (by kernel_rfl) rfl #[.string a0, .int .i64 (wrap64 (a1 + 1))] rfl (by (try simp only [List.map_toArray, List.map_cons, List.map_nil]); first | done | rfl | (simp only [List.length_drop, List.length_take]; rfl)) ?_; (with_reducible refine (plenumref02_ReadUnsigned.calls kj2 a0 (wrap64 (a1 + 1)) t231 t232 true _ ?side99  A9.out).mono ?_); (case side99 => first | exact HG.out | exact Glob.below HG.out (by repeat (first | (with_reducible first | exact HB.out | apply below_alloc | apply pw_below_drewN | apply below_drew1) | exact HB.out))); rintro e w13 ⟨rfl, hb⟩; refine ⟨_, rfl, ?_⟩; have n0_ := Aside0.mk (below_step (by repeat (first | (with_reducible first | exact HB.out | apply below_alloc | apply pw_below_drewN | apply below_drew1) | exact HB.out)) hb); clear HB; have HB := n0_; clear n0_; (try clear hb); (try clear hb2); (try clear hk); (try clear hi)))
            go_ret3
            exact ⟨by first | rfl | (simp [errW_none, errW_some] <;> rfl) | (simp [*, errW_none, errW_some] <;> rfl), by repeat (first | (with_reducible first | exact HB.out | apply below_alloc | apply pw_below_drewN | apply below_drew1) | exact HB.out)⟩
        · replace c10 := Bool.eq_false_iff.mpr c10
          subst c10
          have H1 : (some (0, 0, false)) = some (r1, r2, r3) := by rw [if_neg (show ¬ (false = true) by decide)] at H; exact H
          clear H
          have H := H1
          clear H1
          simp only [Option.some.injEq, Prod.mk.injEq] at H
          obtain ⟨rfl, rfl, rfl⟩ := H
          go_wp2_with (first | ((with_reducible refine gate_callee (f := 37) rfl ?_); refine goesL_ (some 24) rfl rfl Tryd.func37 (by kernel_rfl) rfl #[.string a0, .int .i64 (wrap64 (a1 + 1))] rfl (by (try simp only [List.map_toArray, List.map_cons, List.map_nil]); first | done | rfl | (simp only [List.length_drop, List.length_take]; rfl)) ?_; (with_reducible refine (plenumref02_ReadUnsigned.calls kj2 a0 (wrap64 (a1 + 1)) t231 t232 false _ ?side99  A9.out).mono ?_); (case side99 => first | exact HG.out | exact Glob.below HG.out (by repeat (first | (with_reducible first | exact HB.out | apply below_alloc | apply pw_below_drewN | apply below_drew1) | exact HB.out))); rintro e w14 ⟨rfl, hb⟩; refine ⟨_, rfl, ?_⟩; have n0_ := Aside0.mk (below_step (by repeat (first | (with_reducible first | exact HB.out | apply below_alloc | apply pw_below_drewN | apply below_drew1) | exact HB.out)) hb); clear HB; have HB := n0_; clear n0_; (try clear hb); (try clear hb2); (try clear hk); (try clear hi)))
          go_ret3
          exact ⟨by first | rfl | (simp [errW_none, errW_some] <;> rfl) | (simp [*, errW_none, errW_some] <;> rfl), by repeat (first | (with_reducible first | exact HB.out | apply below_alloc | apply pw_below_drewN | apply below_drew1) | exact HB.out)⟩
end Go.Proofs.YtndeikikeeeigaaDoor.Q
end
section
namespace Go.Proofs.YtndeikikeeeigaaDoor.Q
open Go.RowKit Go.Proofs.YtndeikikeeeigaaDoorW.PrintWords Go.Proofs.YtndeikikeeeigaaDoorW.PrintLast Go.Proofs.YtndeikikeeeigaaDoorW.PrintMore
attribute [local go_sem] max2_int min2_int max_two min_two max_three min_three max_four min_four
set_option linter.unusedVariables false
set_option linter.unusedSimpArgs false
mutual
def plenumref02_Skip.j0 : Nat → ByteArray → Int → Int → Int → Bool → Option (Int × Int)
  | 0, _, _, _, _, _ => none
  | k + 1, x0, x1, x2, x26, x27 => if x27 = true then (some (wrap64 (x1 + 1), 0)) else (if x26 = 3 then ((plenumref02_ReadUnsigned.f k x0 x1).bind fun bt235 => (if bt235.2.2 = true then (some (bt235.2.1, 0)) else (some ((-1), 0)))) else (if x26 = 4 then ((plenumref02_ReadSigned.f k x0 x1).bind fun bt238 => (if bt238.2.2 = true then (some (bt238.2.1, 0)) else (some ((-1), 0)))) else (if x26 = 5 then ((plenumref02_ReadText.f k x0 x1).bind fun bt241 => (if bt241.2.2 = true then (some (bt241.2.1, 0)) else (some ((-1), 0)))) else (if x26 = 6 then ((plenumref02_ReadHead.f k x0 x1).bind fun bt244 => (if bt244.2.2 = true then (plenumref02_Skip.j1 k x0 x2 bt244.1 bt244.2.1 (x2 == 0)) else (plenumref02_Skip.j1 k x0 x2 bt244.1 bt244.2.1 true))) else (some ((-1), 0))))))
def plenumref02_Skip.j1 : Nat → ByteArray → Int → Int → Int → Bool → Option (Int × Int)
  | 0, _, _, _, _, _ => none
  | k + 1, x0, x2, x17, x18, x79 => if x79 = true then (some ((-1), 0)) else (plenumref02_Skip.l0 k x0 x2 x17 x18 0 0)
def plenumref02_Skip.l0 : Nat → ByteArray → Int → Int → Int → Int → Int → Option (Int × Int)
  | 0, _, _, _, _, _, _ => none
  | k + 1, x0, x2, x17, x18, x20, x21 => if x21 < x17 then ((plenumref02_Skip.f k x0 x18 (wrap64 (x2 - 1))).bind fun bt247 => (if bt247.1 < 0 then (some ((-1), 0)) else (plenumref02_Skip.l0 k x0 x2 x17 bt247.1 (mx x20 bt247.2) (wrap64 (x21 + 1))))) else (some (x18, wrap64 (x20 + 1)))
def plenumref02_Skip.f : Nat → ByteArray → Int → Int → Option (Int × Int)
  | 0, _, _, _ => none
  | k + 1, a0, a1, a2 => (plenumref02_Kind.f k a0 a1).bind fun t234 => (if t234 = 1 then (plenumref02_Skip.j0 k a0 a1 a2 t234 (t234 == 1)) else (plenumref02_Skip.j0 k a0 a1 a2 t234 (t234 == 2)))
end
set_option maxHeartbeats 8000000 in
set_option maxRecDepth 100000 in
theorem plenumref02_Skip.calls (k : Nat) : ∀ (a0 : ByteArray) (a1 : Int) (a2 : Int) (r1 : Int) (r2 : Int) (w : World) (hG : Glob w) (h : plenumref02_Skip.f k a0 a1 a2 = some (r1, r2)),
    Calls Tryd.prog 15 #[.string a0, .int .i64 a1, .int .i64 a2] w fun e w' => e = .returned (.tuple #[.int .i64 r1, .int .i64 r2]) ∧ Below w.heap.size w w' := by
  induction k using Nat.strongRecOn with
  | _ k ih =>
  intro a0 a1 a2 r1 r2 w hG h
  cases k with
  | zero => exact absurd h (by simp [plenumref02_Skip.f])
  | succ k =>
  simp only [plenumref02_Skip.f] at h
  have HG := Aside0.mk hG
  clear hG
  have HB := Aside0.mk (Below.refl w.heap.size w)
  have H : ((plenumref02_Kind.f k a0 a1).bind fun t234 => (if t234 = 1 then (plenumref02_Skip.j0 k a0 a1 a2 t234 (t234 == 1)) else (plenumref02_Skip.j0 k a0 a1 a2 t234 (t234 == 2)))) = some (r1, r2) := h
  clear h
  replace H := Option.bind_eq_some_iff.mp H
  obtain ⟨t234, A40, H⟩ := H
  replace H : (if t234 = 1 then (plenumref02_Skip.j0 k a0 a1 a2 t234 (t234 == 1)) else (plenumref02_Skip.j0 k a0 a1 a2 t234 (t234 == 2))) = some (r1, r2) := H
  have A4 := Aside0.mk A40
  clear A40
  have HC5 := Aside0.mk H
  clear H
  go_enter Tryd.func15, Tryd.ntmps15
  go_upto_if 27 with (first | ((with_reducible refine gate_callee (f := 21) rfl ?_); refine goesL_ (some 26) rfl rfl Tryd.func21 (by kernel_rfl) rfl #[.string a0, .int .i64 a1] rfl (by (try simp only [List.map_toArray, List.map_cons, List.map_nil]); first | done | rfl | (simp only [List.length_drop, List.length_take]; rfl)) ?_; (with_reducible refine (plenumref02_Kind.calls k a0 a1 t234 _ ?side99  A4.out).mono ?_); (case side99 => first | exact HG.out | exact Glob.below HG.out (by repeat (first | (with_reducible first | exact HB.out | apply below_alloc | apply pw_below_drewN | apply below_drew1) | exact HB.out))); rintro e w' ⟨rfl, ⟨nd, rfl⟩⟩; refine ⟨_, rfl, ?_⟩))
  (try simp only [Act.put, List.setIfInBounds_toArray, List.set_cons_zero, List.set_cons_succ])
  go_cut [27] (fun v27 wc => ∃ (kq : Nat) (x27_4 : Bool), v27 = .bool x27_4 ∧ Aside0 (plenumref02_Skip.j0 kq a0 a1 a2 t234 x27_4 = some (r1, r2)) ∧ Aside0 (kq ≤ k) ∧ Aside0 (Below w.heap.size w wc))
  case first =>
    have H := HC5.out
    clear HC5
    by_cases c6 : t234 = 1
    · rw [if_pos c6] at H
      have c6b0 : (t234 == 1) = true := beq_iff_eq.mpr c6
      have c6b1 : (t234 != 1) = false := bne_eq_false_iff_eq.mpr c6
      clear c6
      (first | rw [c6b0] | (simp only [i64_w, i32_w]; rw [c6b0]) | skip)
      have H' := Aside0.mk H
      clear H
      go_wp2
      go_meet
      case rel => exact ⟨_, ((t234 == 1)), (by first | rfl | (simp; done) | (simp [*]; done)), H', ⟨by first | omega | exact Nat.le_refl _⟩, ⟨by repeat (first | (with_reducible first | exact HB.out | apply below_alloc | apply pw_below_drewN | apply below_drew1) | exact HB.out)⟩⟩
    · rw [if_neg c6] at H
      have c6b0 : (t234 == 1) = false := beq_eq_false_iff_ne.mpr c6
      have c6b1 : (t234 != 1) = true := bne_iff_ne.mpr c6
      (first | rw [c6b0] | (simp only [i64_w, i32_w]; rw [c6b0]) | skip)
      have H' := Aside0.mk H
      clear H
      go_wp2
      go_meet
      case rel => exact ⟨_, ((t234 == 2)), (by first | rfl | (simp; done) | (simp [*]; done)), H', ⟨by first | omega | exact Nat.le_refl _⟩, ⟨by repeat (first | (with_reducible first | exact HB.out | apply below_alloc | apply pw_below_drewN | apply below_drew1) | exact HB.out)⟩⟩
  case rest =>
    clear HC5
    try clear c1
    try clear c2
    try clear p2
    try clear c6
    try clear c6b0
    try clear c6b1
    obtain ⟨kq, x27_4, rfl, HA, HJ4, HB⟩ := hcut
    cases kq with
    | zero => exact absurd HA.out (by simp [plenumref02_Skip.j0])
    | succ kj4 =>
      have H := HA.out
      clear HA
      simp only [plenumref02_Skip.j0] at H
      by_cases c7 : x27_4 = true
      · subst c7
        have H1 : (some (wrap64 (a1 + 1), 0)) = some (r1, r2) := by rw [if_pos rfl] at H; exact H
        clear H
        have H := H1
        clear H1
        simp only [Option.some.injEq, Prod.mk.injEq] at H
        obtain ⟨rfl, rfl⟩ := H
        go_wp2
        go_ret2
        exact ⟨by first | rfl | (simp [errW_none, errW_some] <;> rfl) | (simp [*, errW_none, errW_some] <;> rfl), by repeat (first | (with_reducible first | exact HB.out | apply below_alloc | apply pw_below_drewN | apply below_drew1) | exact HB.out)⟩
      · replace c7 := Bool.eq_false_iff.mpr c7
        subst c7
        have H1 : (if t234 = 3 then ((plenumref02_ReadUnsigned.f kj4 a0 a1).bind fun bt235 => (if bt235.2.2 = true then (some (bt235.2.1, 0)) else (some ((-1), 0)))) else (if t234 = 4 then ((plenumref02_ReadSigned.f kj4 a0 a1).bind fun bt238 => (if bt238.2.2 = true then (some (bt238.2.1, 0)) else (some ((-1), 0)))) else (if t234 = 5 then ((plenumref02_ReadText.f kj4 a0 a1).bind fun bt241 => (if bt241.2.2 = true then (some (bt241.2.1, 0)) else (some ((-1), 0)))) else (if t234 = 6 then ((plenumref02_ReadHead.f kj4 a0 a1).bind fun bt244 => (if bt244.2.2 = true then (plenumref02_Skip.j1 kj4 a0 a2 bt244.1 bt244.2.1 (a2 == 0)) else (plenumref02_Skip.j1 kj4 a0 a2 bt244.1 bt244.2.1 true))) else (some ((-1), 0)))))) = some (r1, r2) := by rw [if_neg (show ¬ (false = true) by decide)] at H; exact H
        clear H
        have H := H1
        clear H1
        by_cases c8 : t234 = 3
        · rw [if_pos c8] at H
          have c8b0 : (t234 == 3) = true := beq_iff_eq.mpr c8
          have c8b1 : (t234 != 3) = false := bne_eq_false_iff_eq.mpr c8
          clear c8
          replace H := Option.bind_eq_some_iff.mp H
          obtain ⟨⟨t235, t236, t237⟩, A90, H⟩ := H
          replace H : (if t237 = true then (some (t236, 0)) else (some ((-1), 0))) = some (r1, r2) := H
          have A9 := Aside0.mk A90
          clear A90
          by_cases c10 : t237 = true
          · subst c10
            have H1 : (some (t236, 0)) = some (r1, r2) := by rw [if_pos rfl] at H; exact H
            clear H
            have H := H1
            clear H1
            simp only [Option.some.injEq, Prod.mk.injEq] at H
            obtain ⟨rfl, rfl⟩ := H
            go_wp2_with (first | ((with_reducible refine gate_callee (f := 37) rfl ?_); refine goesL_ (some 37) rfl rfl Tryd.func37 (by kernel_rfl) rfl #[.string a0, .int .i64 a1] rfl (by (try simp only [List.map_toArray, List.map_cons, List.map_nil]); first | done | rfl | (simp only [List.length_drop, List.length_take]; rfl)) ?_; (with_reducible refine (plenumref02_ReadUnsigned.calls kj4 a0 a1 t235 t236 true _ ?side99  A9.out).mono ?_); (case side99 => first | exact HG.out | exact Glob.below HG.out (by repeat (first | (with_reducible first | exact HB.out | apply below_alloc | apply pw_below_drewN | apply below_drew1) | exact HB.out))); rintro e w11 ⟨rfl, hb⟩; refine ⟨_, rfl, ?_⟩; have n0_ := Aside0.mk (below_step (by repeat (first | (with_reducible first | exact HB.out | apply below_alloc | apply pw_below_drewN | apply below_drew1) | exact HB.out)) hb); clear HB; have HB := n0_; clear n0_; (try clear hb); (try clear hb2); (try clear hk); (try clear hi)))
            go_ret2
            exact ⟨by first | rfl | (simp [errW_none, errW_some] <;> rfl) | (simp [*, errW_none, errW_some] <;> rfl), by repeat (first | (with_reducible first | exact HB.out | apply below_alloc | apply pw_below_drewN | apply below_drew1) | exact HB.out)⟩
          · replace c10 := Bool.eq_false_iff.mpr c10
            subst c10
            have H1 : (some ((-1), 0)) = some (r1, r2) := by rw [if_neg (show ¬ (false = true) by decide)] at H; exact H
            clear H
            have H := H1
            clear H1
            simp only [Option.some.injEq, Prod.mk.injEq] at H
            obtain ⟨rfl, rfl⟩ := H
            go_wp2_with (first | ((with_reducible refine gate_callee (f := 37) rfl ?_); refine goesL_ (some 37) rfl rfl Tryd.func37 (by kernel_rfl) rfl #[.string a0, .int .i64 a1] rfl (by (try simp only [List.map_toArray, List.map_cons, List.map_nil]); first | done | rfl | (simp only [List.length_drop, List.length_take]; rfl)) ?_; (with_reducible refine (plenumref02_ReadUnsigned.calls kj4 a0 a1 t235 t236 false _ ?side99  A9.out).mono ?_); (case side99 => first | exact HG.out | exact Glob.below HG.out (by repeat (first | (with_reducible first | exact HB.out | apply below_alloc | apply pw_below_drewN | apply below_drew1) | exact HB.out))); rintro e w12 ⟨rfl, hb⟩; refine ⟨_, rfl, ?_⟩; have n0_ := Aside0.mk (below_step (by repeat (first | (with_reducible first | exact HB.out | apply below_alloc | apply pw_below_drewN | apply below_drew1) | exact HB.out)) hb); clear HB; have HB := n0_; clear n0_; (try clear hb); (try clear hb2); (try clear hk); (try clear hi)))
            go_ret2
            exact ⟨by first | rfl | (simp [errW_none, errW_some] <;> rfl) | (simp [*, errW_none, errW_some] <;> rfl), by repeat (first | (with_reducible first | exact HB.out | apply below_alloc | apply pw_below_drewN | apply below_drew1) | exact HB.out)⟩
        · rw [if_neg c8] at H
          have c8b0 : (t234 == 3) = false := beq_eq_false_iff_ne.mpr c8
          have c8b1 : (t234 != 3) = true := bne_iff_ne.mpr c8
          by_cases c13 : t234 = 4
          · rw [if_pos c13] at H
            have c13b0 : (t234 == 4) = true := beq_iff_eq.mpr c13
            have c13b1 : (t234 != 4) = false := bne_eq_false_iff_eq.mpr c13
            clear c13
            replace H := Option.bind_eq_some_iff.mp H
            obtain ⟨⟨t238, t239, t240⟩, A140, H⟩ := H
            replace H : (if t240 = true then (some (t239, 0)) else (some ((-1), 0))) = some (r1, r2) := H
            have A14 := Aside0.mk A140
            clear A140
            by_cases c15 : t240 = true
            · subst c15
              have H1 : (some (t239, 0)) = some (r1, r2) := by rw [if_pos rfl] at H; exact H
              clear H
              have H := H1
              clear H1
              simp only [Option.some.injEq, Prod.mk.injEq] at H
              obtain ⟨rfl, rfl⟩ := H
              go_wp2_with (first | ((with_reducible refine gate_callee (f := 38) rfl ?_); refine goesL_ (some 48) rfl rfl Tryd.func38 (by kernel_rfl) rfl #[.string a0, .int .i64 a1] rfl (by (try simp only [List.map_toArray, List.map_cons, List.map_nil]); first | done | rfl | (simp only [List.length_drop, List.length_take]; rfl)) ?_; (with_reducible refine (plenumref02_ReadSigned.calls kj4 a0 a1 t238 t239 true _ ?side99  A14.out).mono ?_); (case side99 => first | exact HG.out | exact Glob.below HG.out (by repeat (first | (with_reducible first | exact HB.out | apply below_alloc | apply pw_below_drewN | apply below_drew1) | exact HB.out))); rintro e w16 ⟨rfl, hb⟩; refine ⟨_, rfl, ?_⟩; have n0_ := Aside0.mk (below_step (by repeat (first | (with_reducible first | exact HB.out | apply below_alloc | apply pw_below_drewN | apply below_drew1) | exact HB.out)) hb); clear HB; have HB := n0_; clear n0_; (try clear hb); (try clear hb2); (try clear hk); (try clear hi)))
              go_ret2
              exact ⟨by first | rfl | (simp [errW_none, errW_some] <;> rfl) | (simp [*, errW_none, errW_some] <;> rfl), by repeat (first | (with_reducible first | exact HB.out | apply below_alloc | apply pw_below_drewN | apply below_drew1) | exact HB.out)⟩
            · replace c15 := Bool.eq_false_iff.mpr c15
              subst c15
              have H1 : (some ((-1), 0)) = some (r1, r2) := by rw [if_neg (show ¬ (false = true) by decide)] at H; exact H
              clear H
              have H := H1
              clear H1
              simp only [Option.some.injEq, Prod.mk.injEq] at H
              obtain ⟨rfl, rfl⟩ := H
              go_wp2_with (first | ((with_reducible refine gate_callee (f := 38) rfl ?_); refine goesL_ (some 48) rfl rfl Tryd.func38 (by kernel_rfl) rfl #[.string a0, .int .i64 a1] rfl (by (try simp only [List.map_toArray, List.map_cons, List.map_nil]); first | done | rfl | (simp only [List.length_drop, List.length_take]; rfl)) ?_; (with_reducible refine (plenumref02_ReadSigned.calls kj4 a0 a1 t238 t239 false _ ?side99  A14.out).mono ?_); (case side99 => first | exact HG.out | exact Glob.below HG.out (by repeat (first | (with_reducible first | exact HB.out | apply below_alloc | apply pw_below_drewN | apply below_drew1) | exact HB.out))); rintro e w17 ⟨rfl, hb⟩; refine ⟨_, rfl, ?_⟩; have n0_ := Aside0.mk (below_step (by repeat (first | (with_reducible first | exact HB.out | apply below_alloc | apply pw_below_drewN | apply below_drew1) | exact HB.out)) hb); clear HB; have HB := n0_; clear n0_; (try clear hb); (try clear hb2); (try clear hk); (try clear hi)))
              go_ret2
              exact ⟨by first | rfl | (simp [errW_none, errW_some] <;> rfl) | (simp [*, errW_none, errW_some] <;> rfl), by repeat (first | (with_reducible first | exact HB.out | apply below_alloc | apply pw_below_drewN | apply below_drew1) | exact HB.out)⟩
          · rw [if_neg c13] at H
            have c13b0 : (t234 == 4) = false := beq_eq_false_iff_ne.mpr c13
            have c13b1 : (t234 != 4) = true := bne_iff_ne.mpr c13
            by_cases c18 : t234 = 5
            · rw [if_pos c18] at H
              have c18b0 : (t234 == 5) = true := beq_iff_eq.mpr c18
              have c18b1 : (t234 != 5) = false := bne_eq_false_iff_eq.mpr c18
              clear c18
              replace H := Option.bind_eq_some_iff.mp H
              obtain ⟨⟨t241, t242, t243⟩, A190, H⟩ := H
              replace H : (if t243 = true then (some (t242, 0)) else (some ((-1), 0))) = some (r1, r2) := H
              have A19 := Aside0.mk A190
              clear A190
              by_cases c20 : t243 = true
              · subst c20
                have H1 : (some (t242, 0)) = some (r1, r2) := by rw [if_pos rfl] at H; exact H
                clear H
                have H := H1
                clear H1
                simp only [Option.some.injEq, Prod.mk.injEq] at H
                obtain ⟨rfl, rfl⟩ := H
                go_wp2_with (first | ((with_reducible refine gate_callee (f := 39) rfl ?_); refine goesL_ (some 59) rfl rfl Tryd.func39 (by kernel_rfl) rfl #[.string a0, .int .i64 a1] rfl (by (try simp only [List.map_toArray, List.map_cons, List.map_nil]); first | done | rfl | (simp only [List.length_drop, List.length_take]; rfl)) ?_; (with_reducible refine (plenumref02_ReadText.calls kj4 a0 a1 t241 t242 true _ ?side99  A19.out).mono ?_); (case side99 => first | exact HG.out | exact Glob.below HG.out (by repeat (first | (with_reducible first | exact HB.out | apply below_alloc | apply pw_below_drewN | apply below_drew1) | exact HB.out))); rintro e w21 ⟨rfl, hb⟩; refine ⟨_, rfl, ?_⟩; have n0_ := Aside0.mk (below_step (by repeat (first | (with_reducible first | exact HB.out | apply below_alloc | apply pw_below_drewN | apply below_drew1) | exact HB.out)) hb); clear HB; have HB := n0_; clear n0_; (try clear hb); (try clear hb2); (try clear hk); (try clear hi)))
                go_ret2
                exact ⟨by first | rfl | (simp [errW_none, errW_some] <;> rfl) | (simp [*, errW_none, errW_some] <;> rfl), by repeat (first | (with_reducible first | exact HB.out | apply below_alloc | apply pw_below_drewN | apply below_drew1) | exact HB.out)⟩
              · replace c20 := Bool.eq_false_iff.mpr c20
                subst c20
                have H1 : (some ((-1), 0)) = some (r1, r2) := by rw [if_neg (show ¬ (false = true) by decide)] at H; exact H
                clear H
                have H := H1
                clear H1
                simp only [Option.some.injEq, Prod.mk.injEq] at H
                obtain ⟨rfl, rfl⟩ := H
                go_wp2_with (first | ((with_reducible refine gate_callee (f := 39) rfl ?_); refine goesL_ (some 59) rfl rfl Tryd.func39 (by kernel_rfl) rfl #[.string a0, .int .i64 a1] rfl (by (try simp only [List.map_toArray, List.map_cons, List.map_nil]); first | done | rfl | (simp only [List.length_drop, List.length_take]; rfl)) ?_; (with_reducible refine (plenumref02_ReadText.calls kj4 a0 a1 t241 t242 false _ ?side99  A19.out).mono ?_); (case side99 => first | exact HG.out | exact Glob.below HG.out (by repeat (first | (with_reducible first | exact HB.out | apply below_alloc | apply pw_below_drewN | apply below_drew1) | exact HB.out))); rintro e w22 ⟨rfl, hb⟩; refine ⟨_, rfl, ?_⟩; have n0_ := Aside0.mk (below_step (by repeat (first | (with_reducible first | exact HB.out | apply below_alloc | apply pw_below_drewN | apply below_drew1) | exact HB.out)) hb); clear HB; have HB := n0_; clear n0_; (try clear hb); (try clear hb2); (try clear hk); (try clear hi)))
                go_ret2
                exact ⟨by first | rfl | (simp [errW_none, errW_some] <;> rfl) | (simp [*, errW_none, errW_some] <;> rfl), by repeat (first | (with_reducible first | exact HB.out | apply below_alloc | apply pw_below_drewN | apply below_drew1) | exact HB.out)⟩
            · rw [if_neg c18] at H
              have c18b0 : (t234 == 5) = false := beq_eq_false_iff_ne.mpr c18
              have c18b1 : (t234 != 5) = true := bne_iff_ne.mpr c18
              by_cases c23 : t234 = 6
              · rw [if_pos c23] at H
                have c23b0 : (t234 == 6) = true := beq_iff_eq.mpr c23
                have c23b1 : (t234 != 6) = false := bne_eq_false_iff_eq.mpr c23
                clear c23
                replace H := Option.bind_eq_some_iff.mp H
                obtain ⟨⟨t244, t245, t246⟩, A240, H⟩ := H
                replace H : (if t246 = true then (plenumref02_Skip.j1 kj4 a0 a2 t244 t245 (a2 == 0)) else (plenumref02_Skip.j1 kj4 a0 a2 t244 t245 true)) = some (r1, r2) := H
                have A24 := Aside0.mk A240
                clear A240
                have HC25 := Aside0.mk H
                clear H
                go_upto_region 19 with (first | ((with_reducible refine gate_callee (f := 40) rfl ?_); refine goesL_ (some 70) rfl rfl Tryd.func40 (by kernel_rfl) rfl #[.string a0, .int .i64 a1] rfl (by (try simp only [List.map_toArray, List.map_cons, List.map_nil]); first | done | rfl | (simp only [List.length_drop, List.length_take]; rfl)) ?_; (with_reducible refine (plenumref02_ReadHead.calls kj4 a0 a1 t244 t245 t246 _ ?side99  A24.out).mono ?_); (case side99 => first | exact HG.out | exact Glob.below HG.out (by repeat (first | (with_reducible first | exact HB.out | apply below_alloc | apply pw_below_drewN | apply below_drew1) | exact HB.out))); rintro e w26 ⟨rfl, hb⟩; refine ⟨_, rfl, ?_⟩; have n0_ := Aside0.mk (below_step (by repeat (first | (with_reducible first | exact HB.out | apply below_alloc | apply pw_below_drewN | apply below_drew1) | exact HB.out)) hb); clear HB; have HB := n0_; clear n0_; (try clear hb); (try clear hb2); (try clear hk); (try clear hi)))
                (try simp only [Act.put, List.setIfInBounds_toArray, List.set_cons_zero, List.set_cons_succ])
                go_cut [79] (fun v79 wc => ∃ (kq : Nat) (x79_24 : Bool), v79 = .bool x79_24 ∧ Aside0 (plenumref02_Skip.j1 kq a0 a2 t244 t245 x79_24 = some (r1, r2)) ∧ Aside0 (kq ≤ kj4) ∧ Aside0 (Below w.heap.size w wc))
                case first =>
                  have H := HC25.out
                  clear HC25
                  by_cases c27 : t246 = true
                  · subst c27
                    have H1 : (plenumref02_Skip.j1 kj4 a0 a2 t244 t245 (a2 == 0)) = some (r1, r2) := by rw [if_pos rfl] at H; exact H
                    clear H
                    have H := H1
                    clear H1
                    have H' := Aside0.mk H
                    clear H
                    go_wp2
                    go_meet
                    case rel => exact ⟨_, ((a2 == 0)), (by first | rfl | (simp; done) | (simp [*]; done)), H', ⟨by have := HJ4.out; first | omega | exact Nat.le_refl _⟩, ⟨by repeat (first | (with_reducible first | exact HB.out | apply below_alloc | apply pw_below_drewN | apply below_drew1) | exact HB.out)⟩⟩
                  · replace c27 := Bool.eq_false_iff.mpr c27
                    subst c27
                    have H1 : (plenumref02_Skip.j1 kj4 a0 a2 t244 t245 true) = some (r1, r2) := by rw [if_neg (show ¬ (false = true) by decide)] at H; exact H
                    clear H
                    have H := H1
                    clear H1
                    have H' := Aside0.mk H
                    clear H
                    go_wp2
                    go_meet
                    case rel => exact ⟨_, (true), (by first | rfl | (simp; done) | (simp [*]; done)), H', ⟨by have := HJ4.out; first | omega | exact Nat.le_refl _⟩, ⟨by repeat (first | (with_reducible first | exact HB.out | apply below_alloc | apply pw_below_drewN | apply below_drew1) | exact HB.out)⟩⟩
                case rest =>
                  clear HC25
                  try clear c1
                  try clear c2
                  try clear p2
                  try clear c3
                  try clear c4
                  try clear c6
                  try clear c6b0
                  try clear c6b1
                  try clear p6
                  try clear c7
                  try clear c8
                  try clear c8b0
                  try clear c8b1
                  try clear c10
                  try clear c13
                  try clear c13b0
                  try clear c13b1
                  try clear c15
                  try clear c18
                  try clear c18b0
                  try clear c18b1
                  try clear c20
                  try clear c21
                  try clear c23
                  try clear c23b0
                  try clear c23b1
                  try clear c27
                  try clear p2
                  obtain ⟨kq, x79_24, rfl, HA, HJ24, HB⟩ := hcut
                  cases kq with
                  | zero => exact absurd HA.out (by simp [plenumref02_Skip.j1])
                  | succ kj24 =>
                    have H := HA.out
                    clear HA
                    simp only [plenumref02_Skip.j1] at H
                    by_cases c28 : x79_24 = true
                    · subst c28
                      have H1 : (some ((-1), 0)) = some (r1, r2) := by rw [if_pos rfl] at H; exact H
                      clear H
                      have H := H1
                      clear H1
                      simp only [Option.some.injEq, Prod.mk.injEq] at H
                      obtain ⟨rfl, rfl⟩ := H
                      go_wp2
                      go_ret2
                      exact ⟨by first | rfl | (simp [errW_none, errW_some] <;> rfl) | (simp [*, errW_none, errW_some] <;> rfl), by repeat (first | (with_reducible first | exact HB.out | apply below_alloc | apply pw_below_drewN | apply below_drew1) | exact HB.out)⟩
                    · replace c28 := Bool.eq_false_iff.mpr c28
                      subst c28
                      have H1 : (plenumref02_Skip.l0 kj24 a0 a2 t244 t245 0 0) = some (r1, r2) := by rw [if_neg (show ¬ (false = true) by decide)] at H; exact H
                      clear H
                      have H := H1
                      clear H1
                      have H' := Aside0.mk H
                      clear H
                      go_wp2
                      go_loopg [18, 20, 21] kj24 (fun kq v18 v20 v21 w' => ∃ (x18_3 : Int) (x20_3 : Int) (x21_3 : Int), v18 = .int .i64 x18_3 ∧ v20 = .int .i64 x20_3 ∧ v21 = .int .i64 x21_3 ∧ Aside0 (plenumref02_Skip.l0 kq a0 a2 t244 x18_3 x20_3 x21_3 = some (r1, r2)) ∧ Aside0 (kq ≤ kj24) ∧ Aside0 (Below w.heap.size w w'))
                      case atStart => exact ⟨(t245), (0), (0), (by first | rfl | (simp; done) | (simp [*]; done)), (by first | rfl | (simp; done) | (simp [*]; done)), (by first | rfl | (simp; done) | (simp [*]; done)), H', ⟨Nat.le_refl _⟩, ⟨by repeat (first | (with_reducible first | exact HB.out | apply below_alloc | apply pw_below_drewN | apply below_drew1) | exact HB.out)⟩⟩
                      case round =>
                        clear H'
                        try clear c1
                        try clear c2
                        try clear p2
                        try clear c3
                        try clear c4
                        try clear c6
                        try clear c6b0
                        try clear c6b1
                        try clear p6
                        try clear c7
                        try clear c8
                        try clear c8b0
                        try clear c8b1
                        try clear c10
                        try clear c13
                        try clear c13b0
                        try clear c13b1
                        try clear c15
                        try clear c18
                        try clear c18b0
                        try clear c18b1
                        try clear c20
                        try clear c21
                        try clear c23
                        try clear c23b0
                        try clear c23b1
                        try clear c27
                        try clear c28
                        try clear p2
                        try clear p6
                        obtain ⟨x18_3, x20_3, x21_3, rfl, rfl, rfl, HA, HK3, HB⟩ := hrel
                        cases gk with
                        | zero => exact absurd HA.out (by simp [plenumref02_Skip.l0])
                        | succ k3 =>
                          have H := HA.out
                          clear HA
                          simp only [plenumref02_Skip.l0] at H
                          by_cases c29 : x21_3 < t244
                          · rw [if_pos c29] at H
                            have c29b0 : decide (x21_3 < t244) = true := decide_eq_true c29
                            clear c29
                            replace H := Option.bind_eq_some_iff.mp H
                            obtain ⟨⟨t247, t248⟩, A300, H⟩ := H
                            replace H : (if t247 < 0 then (some ((-1), 0)) else (plenumref02_Skip.l0 k3 a0 a2 t244 t247 (mx x20_3 t248) (wrap64 (x21_3 + 1)))) = some (r1, r2) := H
                            have A30 := Aside0.mk A300
                            clear A300
                            by_cases c31 : t247 < 0
                            · rw [if_pos c31] at H
                              have c31b0 : decide (t247 < 0) = true := decide_eq_true c31
                              clear c31
                              simp only [Option.some.injEq, Prod.mk.injEq] at H
                              obtain ⟨rfl, rfl⟩ := H
                              go_wp2_with (first | ((with_reducible refine gate_callee (f := 15) rfl ?_); refine goesL_ (some 90) rfl rfl Tryd.func15 (by kernel_rfl) rfl #[.string a0, .int .i64 x18_3, .int .i64 (wrap64 (a2 - 1))] rfl (by (try simp only [List.map_toArray, List.map_cons, List.map_nil]); first | done | rfl | (simp only [List.length_drop, List.length_take]; rfl)) ?_; (with_reducible refine (ih k3 (by have := HJ4.out; have := HJ24.out; have := HK3.out; omega) a0 x18_3 (wrap64 (a2 - 1)) t247 t248 _ ?side99  A30.out).mono ?_); (case side99 => first | exact HG.out | exact Glob.below HG.out (by repeat (first | (with_reducible first | exact HB.out | apply below_alloc | apply pw_below_drewN | apply below_drew1) | exact HB.out))); rintro e w32 ⟨rfl, hb⟩; refine ⟨_, rfl, ?_⟩; have n0_ := Aside0.mk (below_step (by repeat (first | (with_reducible first | exact HB.out | apply below_alloc | apply pw_below_drewN | apply below_drew1) | exact HB.out)) hb); clear HB; have HB := n0_; clear n0_; (try clear hb); (try clear hb2); (try clear hk); (try clear hi)))
                              go_ret2
                              exact ⟨by first | rfl | (simp [errW_none, errW_some] <;> rfl) | (simp [*, errW_none, errW_some] <;> rfl), by repeat (first | (with_reducible first | exact HB.out | apply below_alloc | apply pw_below_drewN | apply below_drew1) | exact HB.out)⟩
                            · rw [if_neg c31] at H
                              have c31b0 : decide (t247 < 0) = false := decide_eq_false c31
                              clear c31
                              obtain ⟨ji33, hji33⟩ : ∃ j_ : Int, (mx x20_3 t248) = j_ := ⟨_, rfl⟩
                              replace H : (plenumref02_Skip.l0 k3 a0 a2 t244 t247 ji33 (wrap64 (x21_3 + 1))) = some (r1, r2) := by first | (rw [hji33] at H; exact H) | (simp only [hji33] at H ⊢; exact H)
                              (try rw [hji33] at A30)
                              have hji33_ : (if x20_3 < t248 then t248 else x20_3) = ji33 := hji33
                              have H' := Aside0.mk H
                              clear H
                              go_wp2_with (first | ((with_reducible refine gate_callee (f := 15) rfl ?_); refine goesL_ (some 90) rfl rfl Tryd.func15 (by kernel_rfl) rfl #[.string a0, .int .i64 x18_3, .int .i64 (wrap64 (a2 - 1))] rfl (by (try simp only [List.map_toArray, List.map_cons, List.map_nil]); first | done | rfl | (simp only [List.length_drop, List.length_take]; rfl)) ?_; (with_reducible refine (ih k3 (by have := HJ4.out; have := HJ24.out; have := HK3.out; omega) a0 x18_3 (wrap64 (a2 - 1)) t247 t248 _ ?side99  A30.out).mono ?_); (case side99 => first | exact HG.out | exact Glob.below HG.out (by repeat (first | (with_reducible first | exact HB.out | apply below_alloc | apply pw_below_drewN | apply below_drew1) | exact HB.out))); rintro e w34 ⟨rfl, hb⟩; refine ⟨_, rfl, ?_⟩; have n0_ := Aside0.mk (below_step (by repeat (first | (with_reducible first | exact HB.out | apply below_alloc | apply pw_below_drewN | apply below_drew1) | exact HB.out)) hb); clear HB; have HB := n0_; clear n0_; (try clear hb); (try clear hb2); (try clear hk); (try clear hi)))
                              go_roundg k3
                              case measure => have := HJ4.out; have := HJ24.out; have := HK3.out; omega
                              case rel => exact ⟨(t247), (ji33), (wrap64 (x21_3 + 1)), (by first | rfl | (simp; done) | (simp [*]; done)), (by first | rfl | (simp; done) | (simp only [← hji33] <;> (first | rfl | simp)) | (simp [*]; done)), (by first | rfl | (simp; done) | (simp [*]; done)), H', ⟨by have := HJ4.out; have := HJ24.out; have := HK3.out; omega⟩, ⟨by repeat (first | (with_reducible first | exact HB.out | apply below_alloc | apply pw_below_drewN | apply below_drew1) | exact HB.out)⟩⟩
                          · rw [if_neg c29] at H
                            have c29b0 : decide (x21_3 < t244) = false := decide_eq_false c29
                            clear c29
                            simp only [Option.some.injEq, Prod.mk.injEq] at H
                            obtain ⟨rfl, rfl⟩ := H
                            go_wp2
                            go_ret2
                            exact ⟨by first | rfl | (simp [errW_none, errW_some] <;> rfl) | (simp [*, errW_none, errW_some] <;> rfl), by repeat (first | (with_reducible first | exact HB.out | apply below_alloc | apply pw_below_drewN | apply below_drew1) | exact HB.out)⟩
              · rw [if_neg c23] at H
                have c23b0 : (t234 == 6) = false := beq_eq_false_iff_ne.mpr c23
                have c23b1 : (t234 != 6) = true := bne_iff_ne.mpr c23
                simp only [Option.some.injEq, Prod.mk.injEq] at H
                obtain ⟨rfl, rfl⟩ := H
                go_wp2
                go_ret2
                exact ⟨by first | rfl | (simp [errW_none, errW_some] <;> rfl) | (simp [*, errW_none, errW_some] <;> rfl), by repeat (first | (with_reducible first | exact HB.out | apply below_alloc | apply pw_below_drewN | apply below_drew1) | exact HB.out)⟩
end Go.Proofs.YtndeikikeeeigaaDoor.Q
end
section
namespace Go.Proofs.YtndeikikeeeigaaDoor.Q
open Go.RowKit Go.Proofs.YtndeikikeeeigaaDoorW.PrintWords Go.Proofs.YtndeikikeeeigaaDoorW.PrintLast Go.Proofs.YtndeikikeeeigaaDoorW.PrintMore
attribute [local go_sem] max2_int min2_int max_two min_two max_three min_three max_four min_four
set_option linter.unusedVariables false
set_option linter.unusedSimpArgs false
def plenumref02_Depth.f (k : Nat) (a0 : ByteArray) : Option (Int) := (plenumref02_Skip.f k a0 0 16).bind fun bt249 => (if bt249.1 = (a0.size : Int) then (some bt249.2) else (some (-1)))
set_option maxHeartbeats 8000000 in
set_option maxRecDepth 100000 in
theorem plenumref02_Depth.calls (k : Nat) (a0 : ByteArray) (r : Int) (w : World) (hG : Glob w) (h : plenumref02_Depth.f k a0 = some r) :
    Calls Tryd.prog 16 #[.string a0] w fun e w' => e = .returned (.int .i64 r) ∧ Below w.heap.size w w' := by
  have HG := Aside0.mk hG
  clear hG
  have HB := Aside0.mk (Below.refl w.heap.size w)
  have H : ((plenumref02_Skip.f k a0 0 16).bind fun bt249 => (if bt249.1 = (a0.size : Int) then (some bt249.2) else (some (-1)))) = some r := h
  clear h
  replace H := Option.bind_eq_some_iff.mp H
  obtain ⟨⟨t249, t250⟩, A20, H⟩ := H
  replace H : (if t249 = (a0.size : Int) then (some t250) else (some (-1))) = some r := H
  have A2 := Aside0.mk A20
  clear A20
  by_cases c3 : t249 = (a0.size : Int)
  · rw [if_pos c3] at H
    have c3b0 : (t249 == (a0.size : Int)) = true := beq_iff_eq.mpr c3
    have c3b1 : (t249 != (a0.size : Int)) = false := bne_eq_false_iff_eq.mpr c3
    clear c3
    obtain rfl := Option.some.inj H
    go_enter Tryd.func16, Tryd.ntmps16
    go_wp2_with (first | ((with_reducible refine gate_callee (f := 15) rfl ?_); refine goesL_ (some 7) rfl rfl Tryd.func15 (by kernel_rfl) rfl #[.string a0, .int .i64 0, .int .i64 16] rfl (by (try simp only [List.map_toArray, List.map_cons, List.map_nil]); first | done | rfl | (simp only [List.length_drop, List.length_take]; rfl)) ?_; (with_reducible refine (plenumref02_Skip.calls k a0 0 16 t249 t250 _ ?side99  A2.out).mono ?_); (case side99 => first | exact HG.out | exact Glob.below HG.out (by repeat (first | (with_reducible first | exact HB.out | apply below_alloc | apply pw_below_drewN | apply below_drew1) | exact HB.out))); rintro e w4 ⟨rfl, hb⟩; refine ⟨_, rfl, ?_⟩; have n0_ := Aside0.mk (below_step (by repeat (first | (with_reducible first | exact HB.out | apply below_alloc | apply pw_below_drewN | apply below_drew1) | exact HB.out)) hb); clear HB; have HB := n0_; clear n0_; (try clear hb); (try clear hb2); (try clear hk); (try clear hi)))
    go_ret
    exact ⟨by first | rfl | (simp [errW_none, errW_some] <;> rfl) | (simp [*, errW_none, errW_some] <;> rfl), by repeat (first | (with_reducible first | exact HB.out | apply below_alloc | apply pw_below_drewN | apply below_drew1) | exact HB.out)⟩
  · rw [if_neg c3] at H
    have c3b0 : (t249 == (a0.size : Int)) = false := beq_eq_false_iff_ne.mpr c3
    have c3b1 : (t249 != (a0.size : Int)) = true := bne_iff_ne.mpr c3
    obtain rfl := Option.some.inj H
    go_enter Tryd.func16, Tryd.ntmps16
    go_wp2_with (first | ((with_reducible refine gate_callee (f := 15) rfl ?_); refine goesL_ (some 7) rfl rfl Tryd.func15 (by kernel_rfl) rfl #[.string a0, .int .i64 0, .int .i64 16] rfl (by (try simp only [List.map_toArray, List.map_cons, List.map_nil]); first | done | rfl | (simp only [List.length_drop, List.length_take]; rfl)) ?_; (with_reducible refine (plenumref02_Skip.calls k a0 0 16 t249 t250 _ ?side99  A2.out).mono ?_); (case side99 => first | exact HG.out | exact Glob.below HG.out (by repeat (first | (with_reducible first | exact HB.out | apply below_alloc | apply pw_below_drewN | apply below_drew1) | exact HB.out))); rintro e w5 ⟨rfl, hb⟩; refine ⟨_, rfl, ?_⟩; have n0_ := Aside0.mk (below_step (by repeat (first | (with_reducible first | exact HB.out | apply below_alloc | apply pw_below_drewN | apply below_drew1) | exact HB.out)) hb); clear HB; have HB := n0_; clear n0_; (try clear hb); (try clear hb2); (try clear hk); (try clear hi)))
    go_ret
    exact ⟨by first | rfl | (simp [errW_none, errW_some] <;> rfl) | (simp [*, errW_none, errW_some] <;> rfl), by repeat (first | (with_reducible first | exact HB.out | apply below_alloc | apply pw_below_drewN | apply below_drew1) | exact HB.out)⟩
end Go.Proofs.YtndeikikeeeigaaDoor.Q
end
section
namespace Go.Proofs.YtndeikikeeeigaaDoor.Q
open Go.RowKit Go.Proofs.YtndeikikeeeigaaDoorW.PrintWords Go.Proofs.YtndeikikeeeigaaDoorW.PrintLast Go.Proofs.YtndeikikeeeigaaDoorW.PrintMore
attribute [local go_sem] max2_int min2_int max_two min_two max_three min_three max_four min_four
set_option linter.unusedVariables false
set_option linter.unusedSimpArgs false
mutual
def plenumlaw02_CodecSkips.j0 : Nat → ByteArray → Int → Int → Bool → Int → Bool → Option (Bool)
  | 0, _, _, _, _, _, _ => none
  | k + 1, x0, x1, x5, x6, x7, x27 => if x27 = true then ((plenumref02_Skip.f k x0 x1 16).bind fun bt254 => (plenumlaw02_CodecSkips.j1 k x0 x5 x6 bt254.1)) else (plenumlaw02_CodecSkips.j1 k x0 x5 x6 x7)
def plenumlaw02_CodecSkips.j1 : Nat → ByteArray → Int → Bool → Int → Option (Bool)
  | 0, _, _, _, _ => none
  | k + 1, x0, x5, x6, x7 => if (x6 != (decide (x7 ≥ 0))) = true then (plenumlaw02_CodecSkips.j2 k x0 true) else (plenumlaw02_CodecSkips.j2 k x0 (x5 != (mx x7 0)))
def plenumlaw02_CodecSkips.j2 : Nat → ByteArray → Bool → Option (Bool)
  | 0, _, _ => none
  | k + 1, x0, x43 => if x43 = true then (none) else ((plenumref02_Depth.f k x0).bind fun t256 => ((codec_Depth.f k x0).bind fun t257 => (if t257 = t256 then ((codec_Valid.f k x0).bind fun t258 => (some (t258 == (decide (t256 ≥ 0))))) else (none))))
end
def plenumlaw02_CodecSkips.f (k : Nat) (a0 : ByteArray) (a1 : Int) : Option (Bool) := (plenumlaw02_awake.f k).bind fun t251 => (if t251 = true then (if (a0.size : Int) > 300 then (some true) else ((codec_Skip.f k a0 a1).bind fun bt252 => (if a1 ≥ 0 then (plenumlaw02_CodecSkips.j0 k a0 a1 bt252.1 bt252.2 (-1) (decide (a1 ≤ (a0.size : Int)))) else (plenumlaw02_CodecSkips.j0 k a0 a1 bt252.1 bt252.2 (-1) false)))) else (none))
set_option maxHeartbeats 8000000 in
set_option maxRecDepth 100000 in
theorem plenumlaw02_CodecSkips.calls (k : Nat) (a0 : ByteArray) (a1 : Int) (r : Bool) (w : World) (hG : Glob w) (h : plenumlaw02_CodecSkips.f k a0 a1 = some r) :
    Calls Tryd.prog 5 #[.string a0, .int .i64 a1] w fun e w' => e = .returned (.bool r) ∧ Below w.heap.size w w' := by
  have HG := Aside0.mk hG
  clear hG
  have HB := Aside0.mk (Below.refl w.heap.size w)
  have H : ((plenumlaw02_awake.f k).bind fun t251 => (if t251 = true then (if (a0.size : Int) > 300 then (some true) else ((codec_Skip.f k a0 a1).bind fun bt252 => (if a1 ≥ 0 then (plenumlaw02_CodecSkips.j0 k a0 a1 bt252.1 bt252.2 (-1) (decide (a1 ≤ (a0.size : Int)))) else (plenumlaw02_CodecSkips.j0 k a0 a1 bt252.1 bt252.2 (-1) false)))) else (none))) = some r := h
  clear h
  replace H := Option.bind_eq_some_iff.mp H
  obtain ⟨t251, A30, H⟩ := H
  replace H : (if t251 = true then (if (a0.size : Int) > 300 then (some true) else ((codec_Skip.f k a0 a1).bind fun bt252 => (if a1 ≥ 0 then (plenumlaw02_CodecSkips.j0 k a0 a1 bt252.1 bt252.2 (-1) (decide (a1 ≤ (a0.size : Int)))) else (plenumlaw02_CodecSkips.j0 k a0 a1 bt252.1 bt252.2 (-1) false)))) else (none)) = some r := H
  have A3 := Aside0.mk A30
  clear A30
  by_cases c4 : t251 = true
  · subst c4
    have H1 : (if (a0.size : Int) > 300 then (some true) else ((codec_Skip.f k a0 a1).bind fun bt252 => (if a1 ≥ 0 then (plenumlaw02_CodecSkips.j0 k a0 a1 bt252.1 bt252.2 (-1) (decide (a1 ≤ (a0.size : Int)))) else (plenumlaw02_CodecSkips.j0 k a0 a1 bt252.1 bt252.2 (-1) false)))) = some r := by rw [if_pos rfl] at H; exact H
    clear H
    have H := H1
    clear H1
    by_cases c5 : (a0.size : Int) > 300
    · rw [if_pos c5] at H
      have c5b0 : decide (300 < (a0.size : Int)) = true := decide_eq_true c5
      have c5b1 : decide (300 < a0.size) = true := decide_eq_true (by omega)
      clear c5
      obtain rfl := Option.some.inj H
      go_enter Tryd.func5, Tryd.ntmps5
      go_wp2_with (first | ((with_reducible refine gate_callee (f := 9) rfl ?_); refine goesL_ (some 9) rfl rfl Tryd.func9 (by kernel_rfl) rfl #[] rfl (by (try simp only [List.map_toArray, List.map_cons, List.map_nil]); first | done | rfl | (simp only [List.length_drop, List.length_take]; rfl)) ?_; (with_reducible refine (plenumlaw02_awake.calls k  true _ ?side99  A3.out).mono ?_); (case side99 => first | exact HG.out | exact Glob.below HG.out (by repeat (first | (with_reducible first | exact HB.out | apply below_alloc | apply pw_below_drewN | apply below_drew1) | exact HB.out))); rintro e w6 ⟨rfl, hb⟩; refine ⟨_, rfl, ?_⟩; have n0_ := Aside0.mk (below_step (by repeat (first | (with_reducible first | exact HB.out | apply below_alloc | apply pw_below_drewN | apply below_drew1) | exact HB.out)) hb); clear HB; have HB := n0_; clear n0_; (try clear hb); (try clear hb2); (try clear hk); (try clear hi)))
      go_ret
      exact ⟨by first | rfl | (simp [errW_none, errW_some] <;> rfl) | (simp [*, errW_none, errW_some] <;> rfl), by repeat (first | (with_reducible first | exact HB.out | apply below_alloc | apply pw_below_drewN | apply below_drew1) | exact HB.out)⟩
    · rw [if_neg c5] at H
      have c5b0 : decide (300 < (a0.size : Int)) = false := decide_eq_false c5
      have c5b1 : decide (300 < a0.size) = false := decide_eq_false (by omega)
      clear c5
      replace H := Option.bind_eq_some_iff.mp H
      obtain ⟨⟨t252, t253⟩, A70, H⟩ := H
      replace H : (if a1 ≥ 0 then (plenumlaw02_CodecSkips.j0 k a0 a1 t252 t253 (-1) (decide (a1 ≤ (a0.size : Int)))) else (plenumlaw02_CodecSkips.j0 k a0 a1 t252 t253 (-1) false)) = some r := H
      have A7 := Aside0.mk A70
      clear A70
      have HC8 := Aside0.mk H
      clear H
      go_enter Tryd.func5, Tryd.ntmps5
      go_upto_region 7 with (first | ((with_reducible refine gate_callee (f := 9) rfl ?_); refine goesL_ (some 9) rfl rfl Tryd.func9 (by kernel_rfl) rfl #[] rfl (by (try simp only [List.map_toArray, List.map_cons, List.map_nil]); first | done | rfl | (simp only [List.length_drop, List.length_take]; rfl)) ?_; (with_reducible refine (plenumlaw02_awake.calls k  true _ ?side99  A3.out).mono ?_); (case side99 => first | exact HG.out | exact Glob.below HG.out (by repeat (first | (with_reducible first | exact HB.out | apply below_alloc | apply pw_below_drewN | apply below_drew1) | exact HB.out))); rintro e w9 ⟨rfl, hb⟩; refine ⟨_, rfl, ?_⟩; have n0_ := Aside0.mk (below_step (by repeat (first | (with_reducible first | exact HB.out | apply below_alloc | apply pw_below_drewN | apply below_drew1) | exact HB.out)) hb); clear HB; have HB := n0_; clear n0_; (try clear hb); (try clear hb2); (try clear hk); (try clear hi)) | ((with_reducible refine gate_callee (f := 14) rfl ?_); refine goesL_ (some 17) rfl rfl Tryd.func14 (by kernel_rfl) rfl #[.string a0, .int .i64 a1] rfl (by (try simp only [List.map_toArray, List.map_cons, List.map_nil]); first | done | rfl | (simp only [List.length_drop, List.length_take]; rfl)) ?_; (with_reducible refine (codec_Skip.calls k a0 a1 t252 t253 _ ?side99  A7.out).mono ?_); (case side99 => first | exact HG.out | exact Glob.below HG.out (by repeat (first | (with_reducible first | exact HB.out | apply below_alloc | apply pw_below_drewN | apply below_drew1) | exact HB.out))); rintro e w10 ⟨rfl, hb⟩; refine ⟨_, rfl, ?_⟩; have n0_ := Aside0.mk (below_step (by repeat (first | (with_reducible first | exact HB.out | apply below_alloc | apply pw_below_drewN | apply below_drew1) | exact HB.out)) hb); clear HB; have HB := n0_; clear n0_; (try clear hb); (try clear hb2); (try clear hk); (try clear hi)))
      (try simp only [Act.put, List.setIfInBounds_toArray, List.set_cons_zero, List.set_cons_succ])
      go_cut [27] (fun v27 wc => ∃ (kq : Nat) (x27_7 : Bool), v27 = .bool x27_7 ∧ Aside0 (plenumlaw02_CodecSkips.j0 kq a0 a1 t252 t253 (-1) x27_7 = some r) ∧ Aside0 (kq ≤ k) ∧ Aside0 (Below w.heap.size w wc))
      case first =>
        have H := HC8.out
        clear HC8
        by_cases c11 : a1 ≥ 0
        · rw [if_pos c11] at H
          have c11b0 : decide (0 ≤ a1) = true := decide_eq_true c11
          clear c11
          (first | rw [c11b0] | (simp only [i64_w, i32_w]; rw [c11b0]) | skip)
          have H' := Aside0.mk H
          clear H
          go_wp2
          go_meet
          case rel => exact ⟨_, (decide (a1 ≤ (a0.size : Int))), (by first | rfl | (simp; done) | (simp [*]; done)), H', ⟨by first | omega | exact Nat.le_refl _⟩, ⟨by repeat (first | (with_reducible first | exact HB.out | apply below_alloc | apply pw_below_drewN | apply below_drew1) | exact HB.out)⟩⟩
        · rw [if_neg c11] at H
          have c11b0 : decide (0 ≤ a1) = false := decide_eq_false c11
          clear c11
          (first | rw [c11b0] | (simp only [i64_w, i32_w]; rw [c11b0]) | skip)
          have H' := Aside0.mk H
          clear H
          go_wp2
          go_meet
          case rel => exact ⟨_, (false), (by first | rfl | (simp; done) | (simp [*]; done)), H', ⟨by first | omega | exact Nat.le_refl _⟩, ⟨by repeat (first | (with_reducible first | exact HB.out | apply below_alloc | apply pw_below_drewN | apply below_drew1) | exact HB.out)⟩⟩
      case rest =>
        clear HC8
        try clear c1
        try clear p2
        try clear c4
        try clear c5
        try clear c5b0
        try clear c5b1
        try clear c9
        try clear c11
        try clear c11b0
        obtain ⟨kq, x27_7, rfl, HA, HJ7, HB⟩ := hcut
        cases kq with
        | zero => exact absurd HA.out (by simp [plenumlaw02_CodecSkips.j0])
        | succ kj7 =>
          have H := HA.out
          clear HA
          simp only [plenumlaw02_CodecSkips.j0] at H
          have HC12 := Aside0.mk H
          clear H
          go_upto_if 27 with (fail)
          go_cut [7] (fun v7 wc => ∃ (kq : Nat) (x7_11 : Int), v7 = .int .i64 x7_11 ∧ Aside0 (plenumlaw02_CodecSkips.j1 kq a0 t252 t253 x7_11 = some r) ∧ Aside0 (kq ≤ kj7) ∧ Aside0 (Below w.heap.size w wc))
          case first =>
            have H := HC12.out
            clear HC12
            by_cases c13 : x27_7 = true
            · subst c13
              have H1 : ((plenumref02_Skip.f kj7 a0 a1 16).bind fun bt254 => (plenumlaw02_CodecSkips.j1 kj7 a0 t252 t253 bt254.1)) = some r := by rw [if_pos rfl] at H; exact H
              clear H
              have H := H1
              clear H1
              replace H := Option.bind_eq_some_iff.mp H
              obtain ⟨⟨t254, t255⟩, A140, H⟩ := H
              replace H : (plenumlaw02_CodecSkips.j1 kj7 a0 t252 t253 t254) = some r := H
              have A14 := Aside0.mk A140
              clear A140
              have H' := Aside0.mk H
              clear H
              go_wp2_with (first | ((with_reducible refine gate_callee (f := 15) rfl ?_); refine goesL_ (some 31) rfl rfl Tryd.func15 (by kernel_rfl) rfl #[.string a0, .int .i64 a1, .int .i64 16] rfl (by (try simp only [List.map_toArray, List.map_cons, List.map_nil]); first | done | rfl | (simp only [List.length_drop, List.length_take]; rfl)) ?_; (with_reducible refine (plenumref02_Skip.calls kj7 a0 a1 16 t254 t255 _ ?side99  A14.out).mono ?_); (case side99 => first | exact HG.out | exact Glob.below HG.out (by repeat (first | (with_reducible first | exact HB.out | apply below_alloc | apply pw_below_drewN | apply below_drew1) | exact HB.out))); rintro e w15 ⟨rfl, hb⟩; refine ⟨_, rfl, ?_⟩; have n0_ := Aside0.mk (below_step (by repeat (first | (with_reducible first | exact HB.out | apply below_alloc | apply pw_below_drewN | apply below_drew1) | exact HB.out)) hb); clear HB; have HB := n0_; clear n0_; (try clear hb); (try clear hb2); (try clear hk); (try clear hi)))
              go_meet
              case rel => exact ⟨_, (t254), (by first | rfl | (simp; done) | (simp [*]; done)), H', ⟨by have := HJ7.out; first | omega | exact Nat.le_refl _⟩, ⟨by repeat (first | (with_reducible first | exact HB.out | apply below_alloc | apply pw_below_drewN | apply below_drew1) | exact HB.out)⟩⟩
            · replace c13 := Bool.eq_false_iff.mpr c13
              subst c13
              have H1 : (plenumlaw02_CodecSkips.j1 kj7 a0 t252 t253 (-1)) = some r := by rw [if_neg (show ¬ (false = true) by decide)] at H; exact H
              clear H
              have H := H1
              clear H1
              have H' := Aside0.mk H
              clear H
              go_wp2
              go_meet
              case rel => exact ⟨_, ((-1)), (by first | rfl | (simp; done) | (simp [*]; done)), H', ⟨by have := HJ7.out; first | omega | exact Nat.le_refl _⟩, ⟨by repeat (first | (with_reducible first | exact HB.out | apply below_alloc | apply pw_below_drewN | apply below_drew1) | exact HB.out)⟩⟩
          case rest =>
            clear HC12
            try clear c1
            try clear p2
            try clear c4
            try clear c5
            try clear c5b0
            try clear c5b1
            try clear c9
            try clear c11
            try clear c11b0
            try clear c13
            try clear c14
            try clear c15
            try clear p2
            obtain ⟨kq, x7_11, rfl, HA, HJ11, HB⟩ := hcut
            cases kq with
            | zero => exact absurd HA.out (by simp [plenumlaw02_CodecSkips.j1])
            | succ kj11 =>
              have H := HA.out
              clear HA
              simp only [plenumlaw02_CodecSkips.j1] at H
              have HC16 := Aside0.mk H
              clear H
              go_upto_region 9 with (fail)
              go_cut [43] (fun v43 wc => ∃ (kq : Nat) (x43_15 : Bool), v43 = .bool x43_15 ∧ Aside0 (plenumlaw02_CodecSkips.j2 kq a0 x43_15 = some r) ∧ Aside0 (kq ≤ kj11) ∧ Aside0 (Below w.heap.size w wc))
              case first =>
                have H := HC16.out
                clear HC16
                by_cases c17 : (t253 != (decide (x7_11 ≥ 0))) = true
                · rw [if_pos c17] at H
                  have c17b0 : (t253 != (decide (x7_11 ≥ 0))) = true := c17
                  (try (have c17b1 : decide (t253 = (decide (x7_11 ≥ 0))) = false := by simpa using c17))
                  (try (have c17b2 : (t253 == (decide (x7_11 ≥ 0))) = false := by simpa using c17))
                  (try (have c17b3 : ¬ (t253 = (decide (x7_11 ≥ 0))) := by simpa using c17))
                  clear c17
                  (first | rw [c17b0] | (simp only [i64_w, i32_w]; rw [c17b0]) | skip)
                  have H' := Aside0.mk H
                  clear H
                  go_wp2
                  go_meet
                  case rel => exact ⟨_, (true), (by first | rfl | (simp; done) | (simp [*]; done)), H', ⟨by have := HJ7.out; have := HJ11.out; first | omega | exact Nat.le_refl _⟩, ⟨by repeat (first | (with_reducible first | exact HB.out | apply below_alloc | apply pw_below_drewN | apply below_drew1) | exact HB.out)⟩⟩
                · rw [if_neg c17] at H
                  have c17b0 : (t253 != (decide (x7_11 ≥ 0))) = false := by simpa using c17
                  (try (have c17b1 : decide (t253 = (decide (x7_11 ≥ 0))) = true := by simpa using c17))
                  (try (have c17b2 : (t253 == (decide (x7_11 ≥ 0))) = true := by simpa using c17))
                  clear c17
                  (first | rw [c17b0] | (simp only [i64_w, i32_w]; rw [c17b0]) | skip)
                  obtain ⟨ji18, hji18⟩ : ∃ j_ : Int, (mx x7_11 0) = j_ := ⟨_, rfl⟩
                  replace H : (plenumlaw02_CodecSkips.j2 kj11 a0 (t252 != (ji18))) = some r := by first | (rw [hji18] at H; exact H) | (simp only [hji18] at H ⊢; exact H)
                  have hji18_ : (if x7_11 < 0 then 0 else x7_11) = ji18 := hji18
                  have H' := Aside0.mk H
                  clear H
                  go_wp2
                  go_meet
                  case rel => exact ⟨_, ((t252 != (ji18))), (by first | rfl | (simp; done) | (simp only [← hji18] <;> (first | rfl | simp)) | (simp [*]; done)), H', ⟨by have := HJ7.out; have := HJ11.out; first | omega | exact Nat.le_refl _⟩, ⟨by repeat (first | (with_reducible first | exact HB.out | apply below_alloc | apply pw_below_drewN | apply below_drew1) | exact HB.out)⟩⟩
              case rest =>
                clear HC16
                try clear c1
                try clear p2
                try clear c4
                try clear c5
                try clear c5b0
                try clear c5b1
                try clear c9
                try clear c11
                try clear c11b0
                try clear c13
                try clear c14
                try clear c15
                try clear c17
                try clear c17b0
                try clear c17b1
                try clear c17b2
                try clear p2
                obtain ⟨kq, x43_15, rfl, HA, HJ15, HB⟩ := hcut
                cases kq with
                | zero => exact absurd HA.out (by simp [plenumlaw02_CodecSkips.j2])
                | succ kj15 =>
                  have H := HA.out
                  clear HA
                  simp only [plenumlaw02_CodecSkips.j2] at H
                  by_cases c19 : x43_15 = true
                  · subst c19
                    have H1 : (none) = some r := by rw [if_pos rfl] at H; exact H
                    clear H
                    have H := H1
                    clear H1
                    exact absurd H (by simp)
                  · replace c19 := Bool.eq_false_iff.mpr c19
                    subst c19
                    have H1 : ((plenumref02_Depth.f kj15 a0).bind fun t256 => ((codec_Depth.f kj15 a0).bind fun t257 => (if t257 = t256 then ((codec_Valid.f kj15 a0).bind fun t258 => (some (t258 == (decide (t256 ≥ 0))))) else (none)))) = some r := by rw [if_neg (show ¬ (false = true) by decide)] at H; exact H
                    clear H
                    have H := H1
                    clear H1
                    replace H := Option.bind_eq_some_iff.mp H
                    obtain ⟨t256, A200, H⟩ := H
                    replace H : ((codec_Depth.f kj15 a0).bind fun t257 => (if t257 = t256 then ((codec_Valid.f kj15 a0).bind fun t258 => (some (t258 == (decide (t256 ≥ 0))))) else (none))) = some r := H
                    have A20 := Aside0.mk A200
                    clear A200
                    replace H := Option.bind_eq_some_iff.mp H
                    obtain ⟨t257, A210, H⟩ := H
                    replace H : (if t257 = t256 then ((codec_Valid.f kj15 a0).bind fun t258 => (some (t258 == (decide (t256 ≥ 0))))) else (none)) = some r := H
                    have A21 := Aside0.mk A210
                    clear A210
                    by_cases c22 : t257 = t256
                    · rw [if_pos c22] at H
                      have c22b0 : (t257 == t256) = true := beq_iff_eq.mpr c22
                      have c22b1 : (t257 != t256) = false := bne_eq_false_iff_eq.mpr c22
                      clear c22
                      replace H := Option.bind_eq_some_iff.mp H
                      obtain ⟨t258, A230, H⟩ := H
                      replace H : (some (t258 == (decide (t256 ≥ 0)))) = some r := H
                      have A23 := Aside0.mk A230
                      clear A230
                      obtain rfl := Option.some.inj H
                      go_wp2_with (first | ((with_reducible refine gate_callee (f := 16) rfl ?_); refine goesL_ (some 45) rfl rfl Tryd.func16 (by kernel_rfl) rfl #[.string a0] rfl (by (try simp only [List.map_toArray, List.map_cons, List.map_nil]); first | done | rfl | (simp only [List.length_drop, List.length_take]; rfl)) ?_; (with_reducible refine (plenumref02_Depth.calls kj15 a0 t256 _ ?side99  A20.out).mono ?_); (case side99 => first | exact HG.out | exact Glob.below HG.out (by repeat (first | (with_reducible first | exact HB.out | apply below_alloc | apply pw_below_drewN | apply below_drew1) | exact HB.out))); rintro e w24 ⟨rfl, hb⟩; refine ⟨_, rfl, ?_⟩; have n0_ := Aside0.mk (below_step (by repeat (first | (with_reducible first | exact HB.out | apply below_alloc | apply pw_below_drewN | apply below_drew1) | exact HB.out)) hb); clear HB; have HB := n0_; clear n0_; (try clear hb); (try clear hb2); (try clear hk); (try clear hi)) | ((with_reducible refine gate_callee (f := 11) rfl ?_); refine goesL_ (some 47) rfl rfl Tryd.func11 (by kernel_rfl) rfl #[.string a0] rfl (by (try simp only [List.map_toArray, List.map_cons, List.map_nil]); first | done | rfl | (simp only [List.length_drop, List.length_take]; rfl)) ?_; (with_reducible refine (codec_Depth.calls kj15 a0 t257 _ ?side99  A21.out).mono ?_); (case side99 => first | exact HG.out | exact Glob.below HG.out (by repeat (first | (with_reducible first | exact HB.out | apply below_alloc | apply pw_below_drewN | apply below_drew1) | exact HB.out))); rintro e w25 ⟨rfl, hb⟩; refine ⟨_, rfl, ?_⟩; have n0_ := Aside0.mk (below_step (by repeat (first | (with_reducible first | exact HB.out | apply below_alloc | apply pw_below_drewN | apply below_drew1) | exact HB.out)) hb); clear HB; have HB := n0_; clear n0_; (try clear hb); (try clear hb2); (try clear hk); (try clear hi)) | (go_at_call 10; (with_reducible refine (codec_Valid.calls kj15 a0 t258 _ ?side99  A23.out).mono ?_); (case side99 => first | exact HG.out | exact Glob.below HG.out (by repeat (first | (with_reducible first | exact HB.out | apply below_alloc | apply pw_below_drewN | apply below_drew1) | exact HB.out))); rintro e w26 ⟨rfl, hb⟩; have n0_ := Aside0.mk (below_step (by repeat (first | (with_reducible first | exact HB.out | apply below_alloc | apply pw_below_drewN | apply below_drew1) | exact HB.out)) hb); clear HB; have HB := n0_; clear n0_; (try clear hb); (try clear hb2); (try clear hk); (try clear hi)))
                      go_ret
                      exact ⟨by first | rfl | (simp [errW_none, errW_some] <;> rfl) | (simp [*, errW_none, errW_some] <;> rfl), by repeat (first | (with_reducible first | exact HB.out | apply below_alloc | apply pw_below_drewN | apply below_drew1) | exact HB.out)⟩
                    · rw [if_neg c22] at H
                      exact absurd H (by simp)
  · replace c4 := Bool.eq_false_iff.mpr c4
    subst c4
    have H1 : (none) = some r := by rw [if_neg (show ¬ (false = true) by decide)] at H; exact H
    clear H
    have H := H1
    clear H1
    exact absurd H (by simp)
end Go.Proofs.YtndeikikeeeigaaDoor.Q
end
section
namespace Go.Proofs.YtndeikikeeeigaaDoor.Opn
open Go.RowKit Go.Proofs.YtndeikikeeeigaaDoorW.PrintWords
end Go.Proofs.YtndeikikeeeigaaDoor.Opn
end
section
namespace Go.Proofs.YtndeikikeeeigaaDoor.Q
open Go.RowKit Go.Proofs.YtndeikikeeeigaaDoorW.PrintWords Go.Proofs.YtndeikikeeeigaaDoor.Opn
end Go.Proofs.YtndeikikeeeigaaDoor.Q
end
section
namespace Go.Proofs.YtndeikikeeeigaaDoor.Q
open Go.RowKit Go.Proofs.YtndeikikeeeigaaDoorW.PrintWords
def plenumlaw02_CodecSkips.Pure : Prop := ∀ (a0 : ByteArray) (a1 : Int), (a0.size ≤ 140737488351232) → ((Lit.int .i64 a1).wf = true) → ∃ k, plenumlaw02_CodecSkips.f k a0 a1 = some true
end Go.Proofs.YtndeikikeeeigaaDoor.Q
end
section
namespace Go.Proofs.YtndeikikeeeigaaDoor.Pure
open Go.RowKit Go.Proofs.YtndeikikeeeigaaDoorW.PrintWords Go.Proofs.YtndeikikeeeigaaDoorW.PrintLast Go.Proofs.YtndeikikeeeigaaDoorW.PrintMore
theorem u64w (n : Int) : IntKind.u64.wrap n = n % 18446744073709551616 := rfl
theorem i64w (n : Int) : IntKind.i64.wrap n = wrap64 n := by
  unfold wrap64
  show (if (true && decide (n % 18446744073709551616 ≥ 9223372036854775808)) = true then n % 18446744073709551616 - 18446744073709551616 else n % 18446744073709551616) = _
  by_cases h : n % 18446744073709551616 ≥ 9223372036854775808
  · simp only [h, decide_true, Bool.and_self, if_true]; omega
  · simp only [h, decide_false, Bool.and_false, Bool.false_eq_true, if_false]; omega
theorem w64 {n : Int} (h0 : -9223372036854775808 ≤ n) (h1 : n ≤ 9223372036854775807) : wrap64 n = n := by unfold wrap64; omega
theorem and15 (n : Int) (h0 : 0 ≤ n) (h1 : n ≤ 255) : Go.bits .and .u8 n 15 = n % 16 := by
  have : ∀ m : Fin 256, Go.bits .and .u8 (m.val : Int) 15 = (m.val : Int) % 16 := by decide +kernel
  have e := this ⟨n.toNat, by omega⟩
  have hn : ((n.toNat : Nat) : Int) = n := by omega
  simpa [hn] using e
theorem and15_bt (s : ByteArray) (p : Int) : Go.bits .and .u8 (bt s p) 15 = bt s p % 16 := and15 _ (bt_range s p).1 (bt_range s p).2
theorem or_nat (m b : Nat) (hb : b < 256) : (m * 256) ||| b = m * 256 + b := by
  have := Nat.two_pow_add_eq_or_of_lt (i := 8) (b := b) hb m
  rw [Nat.mul_comm] at this
  exact this.symm
theorem or_u64 (a b : Int) (h0 : 0 ≤ a) (h1 : a * 256 < 18446744073709551616) (hb0 : 0 ≤ b) (hb1 : b < 256) : Go.bits .or .u64 (a * 256) b = a * 256 + b := by
  obtain ⟨a, rfl⟩ := Int.eq_ofNat_of_zero_le h0
  obtain ⟨b, rfl⟩ := Int.eq_ofNat_of_zero_le hb0
  show IntKind.u64.wrap (((BitVec.ofInt 64 ((a : Int) * 256)) ||| (BitVec.ofInt 64 (b : Int))).toNat : Int) = _
  rw [BitVec.toNat_or, BitVec.toNat_ofInt, BitVec.toNat_ofInt]
  have e1 : (((a : Int) * 256) % ((2 ^ 64 : Nat) : Int)).toNat = a * 256 := by omega
  have e2 : ((b : Int) % ((2 ^ 64 : Nat) : Int)).toNat = b := by omega
  rw [e1, e2, or_nat a b (by omega), u64w]
  omega
theorem or_i64 (a b : Int) (h0 : -9223372036854775808 ≤ a * 256) (h1 : a * 256 ≤ 9223372036854775807) (hb0 : 0 ≤ b) (hb1 : b < 256) : Go.bits .or .i64 (a * 256) b = a * 256 + b := by
  obtain ⟨b, rfl⟩ := Int.eq_ofNat_of_zero_le hb0
  show IntKind.i64.wrap (((BitVec.ofInt 64 (a * 256)) ||| (BitVec.ofInt 64 (b : Int))).toNat : Int) = _
  rw [BitVec.toNat_or, BitVec.toNat_ofInt, BitVec.toNat_ofInt]
  have e1 : ((a * 256) % ((2 ^ 64 : Nat) : Int)).toNat = (a % 72057594037927936).toNat * 256 := by omega
  have e2 : ((b : Int) % ((2 ^ 64 : Nat) : Int)).toNat = b := by omega
  rw [e1, e2, or_nat _ b (by omega), i64w]
  unfold wrap64
  omega
theorem not_i64 (a : Int) (h0 : -9223372036854775808 ≤ a) (h1 : a < 0) : IntKind.u64.wrap (Go.bits .xor .i64 (-1) a) = -1 - a := by
  show IntKind.u64.wrap (IntKind.i64.wrap (((BitVec.ofInt 64 (-1)) ^^^ (BitVec.ofInt 64 a)).toNat : Int)) = _
  have e : (BitVec.ofInt 64 (-1)) = BitVec.allOnes 64 := by decide
  rw [e, BitVec.allOnes_xor, BitVec.toNat_not, BitVec.toNat_ofInt, i64w, u64w]
  unfold wrap64
  omega
def nb (x : Int) : Int := if x < 256 then 1 else if x < 65536 then 2 else if x < 16777216 then 3 else if x < 4294967296 then 4 else if x < 1099511627776 then 5 else if x < 281474976710656 then 6 else if x < 72057594037927936 then 7 else 8
def sb (x : Int) : Int := if x < 128 then 1 else if x < 32768 then 2 else if x < 8388608 then 3 else if x < 2147483648 then 4 else if x < 549755813888 then 5 else if x < 140737488355328 then 6 else if x < 36028797018963968 then 7 else if x < 9223372036854775808 then 8 else 9
def ss (x : Int) : Int := if x < 0 then sb (-1 - x) else sb x
theorem nb_range (x : Int) : 1 ≤ nb x ∧ nb x ≤ 8 := by unfold nb; omega
theorem ss_range (x : Int) (h0 : -9223372036854775808 ≤ x) (h1 : x ≤ 9223372036854775807) : 1 ≤ ss x ∧ ss x ≤ 8 := by unfold ss sb; omega
theorem nb_div {x : Int} (h : 255 < x) (h1 : x < 18446744073709551616) : nb (x / 256) = nb x - 1 := by unfold nb; omega
theorem nb_small {x : Int} (h : x ≤ 255) : nb x = 1 := by unfold nb; omega
theorem ss_div {x : Int} (h : x < -128 ∨ 127 < x) (h0 : -9223372036854775808 ≤ x) (h1 : x ≤ 9223372036854775807) : ss (x / 256) = ss x - 1 := by unfold ss sb; omega
theorem ss_small {x : Int} (h0 : -128 ≤ x) (h1 : x ≤ 127) : ss x = 1 := by unfold ss sb; omega
end Go.Proofs.YtndeikikeeeigaaDoor.Pure
end
section
namespace Go.Proofs.YtndeikikeeeigaaDoor.Pure
open Go.RowKit Go.Proofs.YtndeikikeeeigaaDoor.Q Go.Proofs.YtndeikikeeeigaaDoorW.PrintWords Go.Proofs.YtndeikikeeeigaaDoorW.PrintLast Go.Proofs.YtndeikikeeeigaaDoorW.PrintMore
set_option linter.unusedVariables false
def lenTab : ByteArray := (⟨#[0, 1, 2, 2, 3, 3, 3, 3, 4, 4, 4, 4, 4, 4, 4, 4, 5, 5, 5, 5, 5, 5, 5, 5, 5, 5, 5, 5, 5, 5, 5, 5, 6, 6, 6, 6, 6, 6, 6, 6, 6, 6, 6, 6, 6, 6, 6, 6, 6, 6, 6, 6, 6, 6, 6, 6, 6, 6, 6, 6, 6, 6, 6, 6, 7, 7, 7, 7, 7, 7, 7, 7, 7, 7, 7, 7, 7, 7, 7, 7, 7, 7, 7, 7, 7, 7, 7, 7, 7, 7, 7, 7, 7, 7, 7, 7, 7, 7, 7, 7, 7, 7, 7, 7, 7, 7, 7, 7, 7, 7, 7, 7, 7, 7, 7, 7, 7, 7, 7, 7, 7, 7, 7, 7, 7, 7, 7, 7, 8, 8, 8, 8, 8, 8, 8, 8, 8, 8, 8, 8, 8, 8, 8, 8, 8, 8, 8, 8, 8, 8, 8, 8, 8, 8, 8, 8, 8, 8, 8, 8, 8, 8, 8, 8, 8, 8, 8, 8, 8, 8, 8, 8, 8, 8, 8, 8, 8, 8, 8, 8, 8, 8, 8, 8, 8, 8, 8, 8, 8, 8, 8, 8, 8, 8, 8, 8, 8, 8, 8, 8, 8, 8, 8, 8, 8, 8, 8, 8, 8, 8, 8, 8, 8, 8, 8, 8, 8, 8, 8, 8, 8, 8, 8, 8, 8, 8, 8, 8, 8, 8, 8, 8, 8, 8, 8, 8, 8, 8, 8, 8, 8, 8, 8, 8, 8, 8, 8, 8, 8, 8, 8, 8, 8, 8, 8, 8]⟩ : ByteArray)
theorem lenTab_at (i : Int) (h0 : 0 ≤ i) (h1 : i < 256) : (i = 0 → bt lenTab i = 0) ∧ (1 ≤ i → 1 ≤ bt lenTab i) ∧ (i < 128 → bt lenTab i ≤ 7) ∧ (128 ≤ i → bt lenTab i = 8) ∧ 0 ≤ bt lenTab i ∧ bt lenTab i ≤ 8 := by
  have : ∀ m : Fin 256, (((m.val : Int) = 0 → bt lenTab (m.val : Int) = 0) ∧ (1 ≤ (m.val : Int) → 1 ≤ bt lenTab (m.val : Int)) ∧ ((m.val : Int) < 128 → bt lenTab (m.val : Int) ≤ 7) ∧ (128 ≤ (m.val : Int) → bt lenTab (m.val : Int) = 8) ∧ 0 ≤ bt lenTab (m.val : Int) ∧ bt lenTab (m.val : Int) ≤ 8) := by decide +kernel
  have e := this ⟨i.toNat, by omega⟩
  have hn : ((i.toNat : Nat) : Int) = i := by omega
  simpa only [hn] using e
theorem wsmall {n : Int} (h0 : 0 ≤ n) (h1 : n ≤ 1000) : wrap64 n = n := by unfold wrap64; omega
set_option maxRecDepth 20000 in
theorem len64_j0 (k : Nat) (x c : Int) (h0 : 0 ≤ x) (h1 : x < 4294967296) (hc : c = 0 ∨ c = 32) : ∃ n, bits_Len64.j0 (k + 1) x c = some n ∧ 0 ≤ n ∧ n ≤ 64 ∧ (x = 0 → n = c) ∧ (1 ≤ x → (n + 7) / 8 = nb x + c / 8) ∧ (n + 8) / 8 = sb x + c / 8 := by
  have hl : ∀ i, bt (⟨#[0, 1, 2, 2, 3, 3, 3, 3, 4, 4, 4, 4, 4, 4, 4, 4, 5, 5, 5, 5, 5, 5, 5, 5, 5, 5, 5, 5, 5, 5, 5, 5, 6, 6, 6, 6, 6, 6, 6, 6, 6, 6, 6, 6, 6, 6, 6, 6, 6, 6, 6, 6, 6, 6, 6, 6, 6, 6, 6, 6, 6, 6, 6, 6, 7, 7, 7, 7, 7, 7, 7, 7, 7, 7, 7, 7, 7, 7, 7, 7, 7, 7, 7, 7, 7, 7, 7, 7, 7, 7, 7, 7, 7, 7, 7, 7, 7, 7, 7, 7, 7, 7, 7, 7, 7, 7, 7, 7, 7, 7, 7, 7, 7, 7, 7, 7, 7, 7, 7, 7, 7, 7, 7, 7, 7, 7, 7, 7, 8, 8, 8, 8, 8, 8, 8, 8, 8, 8, 8, 8, 8, 8, 8, 8, 8, 8, 8, 8, 8, 8, 8, 8, 8, 8, 8, 8, 8, 8, 8, 8, 8, 8, 8, 8, 8, 8, 8, 8, 8, 8, 8, 8, 8, 8, 8, 8, 8, 8, 8, 8, 8, 8, 8, 8, 8, 8, 8, 8, 8, 8, 8, 8, 8, 8, 8, 8, 8, 8, 8, 8, 8, 8, 8, 8, 8, 8, 8, 8, 8, 8, 8, 8, 8, 8, 8, 8, 8, 8, 8, 8, 8, 8, 8, 8, 8, 8, 8, 8, 8, 8, 8, 8, 8, 8, 8, 8, 8, 8, 8, 8, 8, 8, 8, 8, 8, 8, 8, 8, 8, 8, 8, 8, 8, 8, 8, 8]⟩ : ByteArray) i = bt lenTab i := fun _ => rfl
  rw [bits_Len64.j0]
  simp only [hl]
  by_cases c1 : x ≥ 65536
  · by_cases c2 : x / 65536 ≥ 256
    · rw [if_pos c1, if_pos c2, if_pos (by omega), if_pos (by omega)]
      obtain ⟨t1, t2, t3, t4, t5, t6⟩ := lenTab_at (x / 65536 / 256 % 256) (by omega) (by omega)
      generalize bt lenTab (x / 65536 / 256 % 256) = q at *
      rw [wsmall (n := q) (by omega) (by omega), wsmall (n := c + 16) (by omega) (by omega), wsmall (n := c + 16 + 8) (by omega) (by omega), wsmall (by omega) (by omega)]
      refine ⟨_, rfl, by omega, by omega, by omega, by unfold nb; omega, by unfold sb; omega⟩
    · rw [if_pos c1, if_neg c2, if_pos (by omega), if_pos (by omega)]
      obtain ⟨t1, t2, t3, t4, t5, t6⟩ := lenTab_at (x / 65536 % 256) (by omega) (by omega)
      generalize bt lenTab (x / 65536 % 256) = q at *
      rw [wsmall (n := q) (by omega) (by omega), wsmall (n := c + 16) (by omega) (by omega), wsmall (by omega) (by omega)]
      refine ⟨_, rfl, by omega, by omega, by omega, by unfold nb; omega, by unfold sb; omega⟩
  · by_cases c2 : x ≥ 256
    · rw [if_neg c1, if_pos c2, if_pos (by omega), if_pos (by omega)]
      obtain ⟨t1, t2, t3, t4, t5, t6⟩ := lenTab_at (x / 256 % 256) (by omega) (by omega)
      generalize bt lenTab (x / 256 % 256) = q at *
      rw [wsmall (n := q) (by omega) (by omega), wsmall (n := c + 8) (by omega) (by omega), wsmall (by omega) (by omega)]
      refine ⟨_, rfl, by omega, by omega, by omega, by unfold nb; omega, by unfold sb; omega⟩
    · rw [if_neg c1, if_neg c2, if_pos (by omega), if_pos (by omega)]
      obtain ⟨t1, t2, t3, t4, t5, t6⟩ := lenTab_at (x % 256) (by omega) (by omega)
      generalize bt lenTab (x % 256) = q at *
      rw [wsmall (n := q) (by omega) (by omega), wsmall (by omega) (by omega)]
      refine ⟨_, rfl, by omega, by omega, by omega, by unfold nb; omega, by unfold sb; omega⟩
theorem len64 (k : Nat) (x : Int) (h0 : 0 ≤ x) (h1 : x < 18446744073709551616) : ∃ n, bits_Len64.f (k + 1) x = some n ∧ 0 ≤ n ∧ n ≤ 64 ∧ (x = 0 → n = 0) ∧ (1 ≤ x → (n + 7) / 8 = nb x) ∧ (n + 8) / 8 = sb x := by
  unfold bits_Len64.f
  by_cases c : x ≥ 4294967296
  · rw [if_pos c]
    obtain ⟨n, e, a1, a2, a3, a4, a5⟩ := len64_j0 k (x / 4294967296) 32 (by omega) (by omega) (Or.inr rfl)
    refine ⟨n, e, a1, a2, by omega, fun _ => ?_, ?_⟩
    · rw [a4 (by omega)]; unfold nb; omega
    · rw [a5]; unfold sb; omega
  · rw [if_neg c]
    obtain ⟨n, e, a1, a2, a3, a4, a5⟩ := len64_j0 k x 0 h0 (by omega) (Or.inl rfl)
    exact ⟨n, e, a1, a2, a3, fun h => by rw [a4 h]; omega, by rw [a5]; omega⟩
theorem width_eq (k : Nat) (x : Int) (h0 : 0 ≤ x) (h1 : x < 18446744073709551616) : codec_width.f (k + 1) x = some (nb x) := by
  obtain ⟨n, e, a1, a2, a3, a4, a5⟩ := len64 k x h0 h1
  unfold codec_width.f
  rw [e]
  simp only [Option.bind_some]
  rw [wsmall (n := n + 7) (by omega) (by omega), Int.tdiv_eq_ediv_of_nonneg (by omega), wsmall (by omega) (by omega)]
  congr 1
  unfold mx
  by_cases c : x = 0
  · rw [a3 c]; subst c; rfl
  · rw [a4 (by omega)]; have := nb_range x
    split <;> omega
theorem spread_eq (k : Nat) (x : Int) (h0 : -9223372036854775808 ≤ x) (h1 : x ≤ 9223372036854775807) : codec_spread.f (k + 1) x = some (ss x) := by
  unfold codec_spread.f ss
  by_cases c : x < 0
  · rw [if_pos c, if_pos c, not_i64 x h0 c]
    obtain ⟨n, e, a1, a2, a3, a4, a5⟩ := len64 k (-1 - x) (by omega) (by omega)
    rw [e]
    simp only [Option.bind_some]
    rw [wsmall (n := n + 8) (by omega) (by omega), Int.tdiv_eq_ediv_of_nonneg (by omega), wsmall (by omega) (by omega), a5]
  · rw [if_neg c, if_neg c, u64w, Int.emod_eq_of_lt (by omega) (by omega)]
    obtain ⟨n, e, a1, a2, a3, a4, a5⟩ := len64 k x (by omega) (by omega)
    rw [e]
    simp only [Option.bind_some]
    rw [wsmall (n := n + 8) (by omega) (by omega), Int.tdiv_eq_ediv_of_nonneg (by omega), wsmall (by omega) (by omega), a5]
end Go.Proofs.YtndeikikeeeigaaDoor.Pure
end
section
namespace Go.Proofs.YtndeikikeeeigaaDoor.Pure
open Go.RowKit Go.Proofs.YtndeikikeeeigaaDoor.Q Go.Proofs.YtndeikikeeeigaaDoorW.PrintWords Go.Proofs.YtndeikikeeeigaaDoorW.PrintLast Go.Proofs.YtndeikikeeeigaaDoorW.PrintMore
set_option linter.unusedVariables false
set_option linter.unusedSimpArgs false
def kd (b : Int) : Int := if b = 0 then 1 else if b = 1 ∨ b = 2 then 2 else if 16 < b ∧ b ≤ 24 then 3 else if 32 < b ∧ b ≤ 40 then 4 else if b = 48 then 5 else if b = 64 then 6 else 0
def kindS (s : ByteArray) (p : Int) : Int := if p < 0 ∨ p ≥ (s.size : Int) then 0 else kd (bt s p)
theorem byte_fin (s : ByteArray) (p : Int) : ∃ m : Fin 256, ((m.val : Nat) : Int) = bt s p := by
  have := bt_range s p
  exact ⟨⟨(bt s p).toNat, by omega⟩, by show (((bt s p).toNat : Nat) : Int) = _; omega⟩
theorem kind_eq (k : Nat) (s : ByteArray) (p : Int) : codec_kind.f (k + 3) s p = some (kindS s p) := by
  have h1 : ∀ x5 x6 x31, codec_kind.j1 (k + 2) x5 x6 x31 = codec_kind.j1 2 x5 x6 x31 := by intros; simp only [codec_kind.j1, codec_kind.j2]
  unfold codec_kind.f kindS
  by_cases c : p < 0
  · rw [if_pos c, if_pos (Or.inl c)]; simp only [codec_kind.j0, if_true]
  · by_cases c2 : p ≥ (s.size : Int)
    · rw [if_neg c, if_pos (Or.inr c2), decide_eq_true c2]; simp only [codec_kind.j0, if_true]
    · rw [if_neg c, if_neg (by omega), decide_eq_false c2]; simp only [codec_kind.j0, Bool.false_eq_true, if_false]
      rw [if_pos (by omega), if_pos (by omega)]
      simp only [h1]
      obtain ⟨m, hm⟩ := byte_fin s p
      rw [← hm]
      have hb : ∀ m : Fin 256, (if ((m.val : Nat) : Int) = 0 then (some 1) else (if (((m.val : Nat) : Int) / 16) > 4 then (some 0) else (if (((m.val : Nat) : Int) / 16) = 0 then (codec_kind.j1 2 (((m.val : Nat) : Int) / 16) (Go.bits .and .u8 ((m.val : Nat) : Int) 15) (decide ((Go.bits .and .u8 ((m.val : Nat) : Int) 15) > 2))) else (codec_kind.j1 2 (((m.val : Nat) : Int) / 16) (Go.bits .and .u8 ((m.val : Nat) : Int) 15) false)))) = some (kd ((m.val : Nat) : Int)) := by decide +kernel
      exact hb m
theorem refKind_eq (k : Nat) (s : ByteArray) (p : Int) : plenumref02_Kind.f (k + 4) s p = some (kindS s p) := by
  have h1 : ∀ x5 x31, plenumref02_Kind.j1 (k + 3) x5 x31 = plenumref02_Kind.j1 3 x5 x31 := by intros; simp only [plenumref02_Kind.j1, plenumref02_Kind.j2, plenumref02_Kind.j3]
  unfold plenumref02_Kind.f kindS
  by_cases c : p < 0
  · rw [if_pos c, if_pos (Or.inl c)]; simp only [plenumref02_Kind.j0, if_true]
  · by_cases c2 : p ≥ (s.size : Int)
    · rw [if_neg c, if_pos (Or.inr c2), decide_eq_true c2]; simp only [plenumref02_Kind.j0, if_true]
    · rw [if_neg c, if_neg (by omega), decide_eq_false c2]; simp only [plenumref02_Kind.j0, Bool.false_eq_true, if_false]
      rw [if_pos (by omega), if_pos (by omega)]
      simp only [h1]
      obtain ⟨m, hm⟩ := byte_fin s p
      rw [← hm]
      have hb : ∀ m : Fin 256, (if ((m.val : Nat) : Int) = 0 then (some 1) else (if ((m.val : Nat) : Int) = 1 then (plenumref02_Kind.j1 3 ((m.val : Nat) : Int) true) else (plenumref02_Kind.j1 3 ((m.val : Nat) : Int) (((m.val : Nat) : Int) == 2)))) = some (kd ((m.val : Nat) : Int)) := by decide +kernel
      exact hb m
theorem kindS_in {s : ByteArray} {p : Int} (h : kindS s p ≠ 0) : 0 ≤ p ∧ p < (s.size : Int) ∧ kindS s p = kd (bt s p) := by
  unfold kindS at *
  split at h
  · exact absurd rfl h
  · rename_i c
    exact ⟨by omega, by omega, if_neg c⟩
theorem kd3 {b : Int} : kd b = 3 ↔ 16 < b ∧ b ≤ 24 := by unfold kd; omega
theorem kd4 {b : Int} : kd b = 4 ↔ 32 < b ∧ b ≤ 40 := by unfold kd; omega
def beN (s : ByteArray) (q : Int) : Nat → Int
  | 0 => 0
  | n + 1 => beN s q n * 256 + bt s (q + (n : Int))
theorem beN_range (s : ByteArray) (q : Int) (n : Nat) : 0 ≤ beN s q n ∧ beN s q n < 256 ^ n := by
  induction n with
  | zero => simp [beN]
  | succ n ih =>
    have := bt_range s (q + n)
    rw [Int.pow_succ]
    simp only [beN]
    omega
theorem pow256 {n m : Nat} (h : n ≤ m) : (256 : Int) ^ n ≤ 256 ^ m := by
  have := Nat.pow_le_pow_right (n := 256) (by decide) h
  have e : ∀ j : Nat, (256 : Int) ^ j = ((256 ^ j : Nat) : Int) := fun j => by rw [Int.natCast_pow]; rfl
  rw [e, e]
  omega
theorem beN_lt {s : ByteArray} {q : Int} {n m : Nat} (h : n ≤ m) : beN s q n < 256 ^ m := by
  have h1 := (beN_range s q n).2
  have h2 := pow256 h
  omega
def sgn (n : Nat) (V : Int) : Int := if V < 128 * 256 ^ (n - 1) then V else V - 256 ^ n
theorem sgn_range {n : Nat} {V : Int} (h1 : 1 ≤ n) (h8 : n ≤ 8) (h : 0 ≤ V ∧ V < 256 ^ n) : -9223372036854775808 ≤ sgn n V ∧ sgn n V ≤ 9223372036854775807 := by
  unfold sgn
  obtain rfl | rfl | rfl | rfl | rfl | rfl | rfl | rfl : n = 1 ∨ n = 2 ∨ n = 3 ∨ n = 4 ∨ n = 5 ∨ n = 6 ∨ n = 7 ∨ n = 8 := by omega
  all_goals simp only [Int.reducePow, Nat.reduceSub] at h ⊢
  all_goals split <;> omega
theorem sgn_shift {n : Nat} {V : Int} (h1 : 1 ≤ n) (h8 : n ≤ 8) (h : 0 ≤ V ∧ V < 256 ^ n) : shr .i64 (wrap64 (shl .u64 V (wrap64 (64 - (wrap64 (8 * (n : Int))))))) (wrap64 (64 - (wrap64 (8 * (n : Int))))) = sgn n V := by
  have hw : wrap64 (64 - (wrap64 (8 * (n : Int)))) = 64 - 8 * (n : Int) := by rw [w64 (n := 8 * (n : Int)) (by omega) (by omega), w64 (by omega) (by omega)]
  rw [hw]
  unfold sgn shr shl
  obtain rfl | rfl | rfl | rfl | rfl | rfl | rfl | rfl : n = 1 ∨ n = 2 ∨ n = 3 ∨ n = 4 ∨ n = 5 ∨ n = 6 ∨ n = 7 ∨ n = 8 := by omega
  · rw [show (2 : Int) ^ min (64 - 8 * ((1 : Nat) : Int)).toNat IntKind.u64.bits = 72057594037927936 from rfl, show (2 : Int) ^ min (64 - 8 * ((1 : Nat) : Int)).toNat IntKind.i64.bits = 72057594037927936 from rfl, u64w]; unfold wrap64; simp only [Int.reducePow, Nat.reduceSub] at h ⊢; split <;> omega
  · rw [show (2 : Int) ^ min (64 - 8 * ((2 : Nat) : Int)).toNat IntKind.u64.bits = 281474976710656 from rfl, show (2 : Int) ^ min (64 - 8 * ((2 : Nat) : Int)).toNat IntKind.i64.bits = 281474976710656 from rfl, u64w]; unfold wrap64; simp only [Int.reducePow, Nat.reduceSub] at h ⊢; split <;> omega
  · rw [show (2 : Int) ^ min (64 - 8 * ((3 : Nat) : Int)).toNat IntKind.u64.bits = 1099511627776 from rfl, show (2 : Int) ^ min (64 - 8 * ((3 : Nat) : Int)).toNat IntKind.i64.bits = 1099511627776 from rfl, u64w]; unfold wrap64; simp only [Int.reducePow, Nat.reduceSub] at h ⊢; split <;> omega
  · rw [show (2 : Int) ^ min (64 - 8 * ((4 : Nat) : Int)).toNat IntKind.u64.bits = 4294967296 from rfl, show (2 : Int) ^ min (64 - 8 * ((4 : Nat) : Int)).toNat IntKind.i64.bits = 4294967296 from rfl, u64w]; unfold wrap64; simp only [Int.reducePow, Nat.reduceSub] at h ⊢; split <;> omega
  · rw [show (2 : Int) ^ min (64 - 8 * ((5 : Nat) : Int)).toNat IntKind.u64.bits = 16777216 from rfl, show (2 : Int) ^ min (64 - 8 * ((5 : Nat) : Int)).toNat IntKind.i64.bits = 16777216 from rfl, u64w]; unfold wrap64; simp only [Int.reducePow, Nat.reduceSub] at h ⊢; split <;> omega
  · rw [show (2 : Int) ^ min (64 - 8 * ((6 : Nat) : Int)).toNat IntKind.u64.bits = 65536 from rfl, show (2 : Int) ^ min (64 - 8 * ((6 : Nat) : Int)).toNat IntKind.i64.bits = 65536 from rfl, u64w]; unfold wrap64; simp only [Int.reducePow, Nat.reduceSub] at h ⊢; split <;> omega
  · rw [show (2 : Int) ^ min (64 - 8 * ((7 : Nat) : Int)).toNat IntKind.u64.bits = 256 from rfl, show (2 : Int) ^ min (64 - 8 * ((7 : Nat) : Int)).toNat IntKind.i64.bits = 256 from rfl, u64w]; unfold wrap64; simp only [Int.reducePow, Nat.reduceSub] at h ⊢; split <;> omega
  · rw [show (2 : Int) ^ min (64 - 8 * ((8 : Nat) : Int)).toNat IntKind.u64.bits = 1 from rfl, show (2 : Int) ^ min (64 - 8 * ((8 : Nat) : Int)).toNat IntKind.i64.bits = 1 from rfl, u64w]; unfold wrap64; simp only [Int.reducePow, Nat.reduceSub] at h ⊢; split <;> omega
def cnt (s : ByteArray) (p : Int) : Nat := (bt s p % 16).toNat
def val (s : ByteArray) (p : Int) : Int := beN s (p + 1) (cnt s p)
def rawS (s : ByteArray) (p want : Int) : Int × Int × Bool :=
  if kindS s p = want then
    if p + 1 + (cnt s p : Int) > (s.size : Int) then (0, 0, false)
    else if want = 3 then (val s p, p + 1 + (cnt s p : Int), nb (val s p) == (cnt s p : Int))
    else (IntKind.u64.wrap (sgn (cnt s p) (val s p)), p + 1 + (cnt s p : Int), ss (sgn (cnt s p) (val s p)) == (cnt s p : Int))
  else (0, 0, false)
theorem raw_loop (s : ByteArray) (p want : Int) (n : Nat) (hp : 0 ≤ p) (h1 : 1 ≤ n) (h8 : n ≤ 8) (hn : p + 1 + (n : Int) ≤ (s.size : Int)) (hz : s.size ≤ 140737488355327) :
    ∀ (d i : Nat), i + d = n → ∀ k, codec_raw.l0 (k + d + 2) s p want n (beN s (p + 1) i) n i =
      if want = 3 then some (beN s (p + 1) n, p + 1 + (n : Int), nb (beN s (p + 1) n) == (n : Int)) else some (IntKind.u64.wrap (sgn n (beN s (p + 1) n)), p + 1 + (n : Int), ss (sgn n (beN s (p + 1) n)) == (n : Int)) := by
  intro d
  have w1 : wrap64 (p + 1) = p + 1 := w64 (by omega) (by omega)
  induction d with
  | zero =>
    intro i hi k
    obtain rfl : i = n := by omega
    have hr := beN_range s (p + 1) i
    have hlt : beN s (p + 1) i < 256 ^ 8 := beN_lt h8
    simp only [Int.reducePow] at hlt
    have hr' := sgn_range h1 h8 hr
    show codec_raw.l0 ((k + 1) + 1) s p want i _ i i = _
    rw [codec_raw.l0]
    rw [if_neg (by omega), w1, w64 (n := p + 1 + (i : Int)) (by omega) (by omega)]
    by_cases c : want = 3
    · rw [if_pos c, if_pos c, width_eq _ _ hr.1 (by omega)]; rfl
    · have hw : 0 ≤ wrap64 (64 - (wrap64 (8 * (i : Int)))) := by rw [w64 (n := 8 * (i : Int)) (by omega) (by omega), w64 (by omega) (by omega)]; omega
      rw [if_neg c, if_neg c, if_pos hw, sgn_shift h1 h8 hr, spread_eq _ _ hr'.1 hr'.2]; rfl
  | succ d ih =>
    intro i hi k
    have hr := beN_range s (p + 1) i
    have hlt : beN s (p + 1) i < 256 ^ 7 := beN_lt (by omega)
    simp only [Int.reducePow] at hlt
    have hb := bt_range s (p + 1 + (i : Int))
    show codec_raw.l0 ((k + d + 2) + 1) s p want n _ n i = _
    rw [codec_raw.l0]
    rw [if_pos (by omega), w1, w64 (n := p + 1 + (i : Int)) (by omega) (by omega), if_pos (by omega), if_pos (by omega), w64 (n := (i : Int) + 1) (by omega) (by omega), u64w, u64w,
      Int.emod_eq_of_lt (b := 18446744073709551616) (a := beN s (p + 1) i * 256) (by omega) (by omega), Int.emod_eq_of_lt (b := 18446744073709551616) (a := bt s (p + 1 + (i : Int))) (by omega) (by omega), or_u64 _ _ hr.1 (by omega) hb.1 (by omega)]
    have := ih (i + 1) (by omega) k
    have e : ((i + 1 : Nat) : Int) = (i : Int) + 1 := by omega
    rw [e] at this
    exact this
theorem raw_eq (k : Nat) (s : ByteArray) (p want : Int) (hw : want = 3 ∨ want = 4) (hz : s.size ≤ 140737488355327) : codec_raw.f (k + 12) s p want = some (rawS s p want) := by
  unfold codec_raw.f rawS
  rw [show k + 12 = (k + 9) + 3 from rfl, kind_eq]
  simp only [Option.bind_some]
  by_cases c : kindS s p = want
  · rw [if_pos c, if_pos c]
    obtain ⟨p0, p1, hk⟩ := kindS_in (s := s) (p := p) (by omega)
    have hb : (16 < bt s p ∧ bt s p ≤ 24) ∨ (32 < bt s p ∧ bt s p ≤ 40) := by
      rcases hw with rfl | rfl
      · left; exact kd3.1 (hk.symm.trans c)
      · right; exact kd4.1 (hk.symm.trans c)
    have hc : (bt s p % 16) = (cnt s p : Int) := by unfold cnt; omega
    have h1 : 1 ≤ bt s p % 16 ∧ bt s p % 16 ≤ 8 := by omega
    rw [if_pos p0, if_pos p1, and15_bt, hc]
    rw [hc] at h1
    rw [w64 (n := (cnt s p : Int)) (by omega) (by omega), w64 (n := p + 1) (by omega) (by omega), w64 (n := p + 1 + (cnt s p : Int)) (by omega) (by omega)]
    by_cases c2 : p + 1 + (cnt s p : Int) > (s.size : Int)
    · rw [if_pos c2, if_pos c2]
    · rw [if_neg c2, if_neg c2]
      have := raw_loop s p want (cnt s p) p0 (by omega) (by omega) (by omega) hz (cnt s p) 0 (by omega) (k + 10 - cnt s p)
      rw [show k + 10 - cnt s p + cnt s p + 2 = k + 9 + 3 by omega] at this
      refine this.trans ?_
      unfold val
      split <;> rfl
  · rw [if_neg c, if_neg c]
end Go.Proofs.YtndeikikeeeigaaDoor.Pure
end
section
namespace Go.Proofs.YtndeikikeeeigaaDoor.Pure
open Go.RowKit Go.Proofs.YtndeikikeeeigaaDoor.Q Go.Proofs.YtndeikikeeeigaaDoorW.PrintWords Go.Proofs.YtndeikikeeeigaaDoorW.PrintLast Go.Proofs.YtndeikikeeeigaaDoorW.PrintMore
set_option linter.unusedVariables false
set_option linter.unusedSimpArgs false
def beL (V : Int) : Nat → List Int
  | 0 => []
  | n + 1 => beL (V / 256) n ++ [V % 256]
theorem beL_length (V : Int) (n : Nat) : (beL V n).length = n := by
  induction n generalizing V with
  | zero => rfl
  | succ n ih => simp [beL, ih]
theorem strOfNums_size (l : List Int) : (strOfNums l).size = l.length := by
  show ((l.map fun n => UInt8.ofNat n.toNat).toArray).size = _
  simp
theorem refU_loop : ∀ (d : Nat) (x0 : Int) (x3 : List Int) (k : Nat), 0 ≤ x0 → x0 < 18446744073709551616 → nb x0 = (d : Int) + 1 → x3.length + d ≤ 100 →
    plenumref02_Unsigned.l0 (k + d + 1) x0 x3 = some (strOfNums ((16 + ((d + x3.length : Nat) : Int)) :: (beL (x0 / 256) d ++ x3))) := by
  intro d
  induction d with
  | zero =>
    intro x0 x3 k h0 h1 h2 h3
    have hx : ¬ x0 > 255 := by intro h; unfold nb at h2; omega
    show plenumref02_Unsigned.l0 (k + 1) x0 x3 = _
    rw [plenumref02_Unsigned.l0, if_neg hx]
    simp only [Option.bind_some]
    rw [if_pos (by simp; omega), w64 (n := 16 + (x3.length : Int)) (by omega) (by omega), Int.emod_eq_of_lt (by omega) (by omega)]
    simp [beL]
  | succ d ih =>
    intro x0 x3 k h0 h1 h2 h3
    have hx : x0 > 255 := by have := @nb_small x0; omega
    show plenumref02_Unsigned.l0 ((k + d + 1) + 1) x0 x3 = _
    rw [plenumref02_Unsigned.l0, if_pos hx]
    simp only [Option.bind_some]
    rw [if_pos (by simp; omega), Int.tdiv_eq_ediv_of_nonneg h0, u64w, Int.emod_eq_of_lt (b := 18446744073709551616) (by omega) (by omega), ih _ _ k (by omega) (by omega) (by rw [nb_div hx h1]; omega) (by simp; omega)]
    rw [show d + ([x0 / 256 % 256] ++ x3).length = d + 1 + x3.length by simp; omega]
    simp [beL]
theorem refU_eq (k : Nat) (V : Int) (h0 : 0 ≤ V) (h1 : V < 18446744073709551616) : plenumref02_Unsigned.f (k + 8) V = some (strOfNums ((16 + nb V) :: beL V (nb V).toNat)) := by
  have hr := nb_range V
  have := refU_loop (nb V - 1).toNat V [V % 256] (k + 8 - (nb V - 1).toNat - 1) h0 h1 (by omega) (by simp; omega)
  rw [show k + 8 - (nb V - 1).toNat - 1 + (nb V - 1).toNat + 1 = k + 8 by omega] at this
  unfold plenumref02_Unsigned.f
  rw [this]
  congr 2
  obtain ⟨m, hm⟩ : ∃ m : Nat, nb V = (m : Int) + 1 := ⟨(nb V - 1).toNat, by omega⟩
  rw [hm, show ((m : Int) + 1 - 1).toNat = m by omega, show ((m : Int) + 1).toNat = m + 1 by omega]
  congr 1
theorem refS_loop : ∀ (d : Nat) (x0 : Int) (x3 : List Int) (k : Nat), -9223372036854775808 ≤ x0 → x0 ≤ 9223372036854775807 → ss x0 = (d : Int) + 1 → x3.length + d ≤ 100 →
    plenumref02_Signed.l0 (k + d + 1) x0 x3 = some (strOfNums ((32 + ((d + x3.length : Nat) : Int)) :: (beL (x0 / 256) d ++ x3))) := by
  intro d
  induction d with
  | zero =>
    intro x0 x3 k h0 h1 h2 h3
    have hx : -128 ≤ x0 ∧ x0 ≤ 127 := by unfold ss sb at h2; omega
    show plenumref02_Signed.l0 (k + 1) x0 x3 = _
    rw [plenumref02_Signed.l0, if_neg (by omega), if_neg (by omega)]
    simp only [Option.bind_some]
    rw [if_pos (by simp; omega), w64 (n := 32 + (x3.length : Int)) (by omega) (by omega), Int.emod_eq_of_lt (by omega) (by omega)]
    simp [beL]
  | succ d ih =>
    intro x0 x3 k h0 h1 h2 h3
    have hx : x0 < -128 ∨ 127 < x0 := by have := @ss_small x0; omega
    have e := ih (x0 / 256) ([x0 / 256 % 256] ++ x3) k (by omega) (by omega) (by rw [ss_div hx h0 h1]; omega) (by simp; omega)
    show plenumref02_Signed.l0 ((k + d + 1) + 1) x0 x3 = _
    have e2 : some (strOfNums ((32 + ((d + ([x0 / 256 % 256] ++ x3).length : Nat) : Int)) :: (beL (x0 / 256 / 256) d ++ ([x0 / 256 % 256] ++ x3)))) = some (strOfNums ((32 + ((d + 1 + x3.length : Nat) : Int)) :: (beL (x0 / 256) (d + 1) ++ x3))) := by
      rw [show d + ([x0 / 256 % 256] ++ x3).length = d + 1 + x3.length by simp; omega]
      simp [beL]
    rw [plenumref02_Signed.l0]
    by_cases c : x0 < -128
    · rw [if_pos c]
      simp only [Option.bind_some]
      rw [if_pos (by simp; omega), e, e2]
    · rw [if_neg c, if_pos (by omega)]
      simp only [Option.bind_some]
      rw [if_pos (by simp; omega), e, e2]
theorem refS_eq (k : Nat) (V : Int) (h0 : -9223372036854775808 ≤ V) (h1 : V ≤ 9223372036854775807) : plenumref02_Signed.f (k + 8) V = some (strOfNums ((32 + ss V) :: beL V (ss V).toNat)) := by
  have hr := ss_range V h0 h1
  have := refS_loop (ss V - 1).toNat V [V % 256] (k + 8 - (ss V - 1).toNat - 1) h0 h1 (by omega) (by simp; omega)
  rw [show k + 8 - (ss V - 1).toNat - 1 + (ss V - 1).toNat + 1 = k + 8 by omega] at this
  unfold plenumref02_Signed.f
  rw [this]
  congr 2
  obtain ⟨m, hm⟩ : ∃ m : Nat, ss V = (m : Int) + 1 := ⟨(ss V - 1).toNat, by omega⟩
  rw [hm, show ((m : Int) + 1 - 1).toNat = m by omega, show ((m : Int) + 1).toNat = m + 1 by omega]
  congr 1
theorem ext_size (s : ByteArray) (i j : Nat) (h : i ≤ j) (hj : j ≤ s.size) : (s.extract i j).size = j - i := by
  rw [ByteArray.size_extract]; omega
theorem bt_ext (s : ByteArray) (i j : Nat) (q : Int) (h : i ≤ j) (hj : j ≤ s.size) (h0 : 0 ≤ q) (h1 : q < (j : Int) - i) : bt (s.extract i j) q = bt s ((i : Int) + q) := by
  unfold bt
  rw [dif_pos (by rw [ext_size s i j h hj]; omega), dif_pos (by omega)]
  rw [ByteArray.getElem_extract]
  congr 3
  omega
def numS (s : ByteArray) (p lead : Int) : Bool := decide (p < (s.size : Int)) && decide (lead < bt s p) && decide (bt s p ≤ lead + 8) && decide (p + 1 + (cnt s p : Int) ≤ (s.size : Int))
theorem refNumber_eq (k : Nat) (s : ByteArray) (p lead : Int) (hl : lead = 16 ∨ lead = 32) (hp : 0 ≤ p) (hz : s.size ≤ 140737488355327) :
    plenumref02_number.f (k + 2) s p lead = some (if numS s p lead = true then (s.extract (p + 1).toNat (p + 1 + (cnt s p : Int)).toNat, true) else ((⟨#[]⟩ : ByteArray), false)) := by
  unfold plenumref02_number.f numS
  have hb := bt_range s p
  by_cases c1 : p ≥ (s.size : Int)
  · rw [if_pos c1, decide_eq_false (by omega)]
    simp only [plenumref02_number.j0, if_true, Bool.false_and, Bool.false_eq_true, if_false]
  · rw [if_neg c1, if_pos hp, if_pos (by omega), decide_eq_true (p := p < (s.size : Int)) (by omega)]
    by_cases c2 : bt s p ≤ lead
    · rw [if_pos c2, decide_eq_false (p := lead < bt s p) (by omega)]
      simp only [plenumref02_number.j0, if_true, Bool.false_and, Bool.true_and, Bool.false_eq_true, if_false]
    · rw [if_neg c2, decide_eq_true (p := lead < bt s p) (by omega)]
      by_cases c3 : bt s p > (lead + 8) % 256
      · rw [decide_eq_true c3, decide_eq_false (p := bt s p ≤ lead + 8) (by omega)]
        simp only [plenumref02_number.j0, if_true, Bool.false_and, Bool.true_and, Bool.false_eq_true, if_false]
      · rw [decide_eq_false c3, decide_eq_true (p := bt s p ≤ lead + 8) (by omega)]
        have hc : ((bt s p) - lead) % 256 = (cnt s p : Int) := by unfold cnt; omega
        have hc8 : 1 ≤ cnt s p ∧ cnt s p ≤ 8 := by unfold cnt; omega
        simp only [plenumref02_number.j0, Bool.false_eq_true, if_false, Bool.true_and]
        rw [if_pos hp, if_pos (by omega), hc, w64 (n := (s.size : Int) - p) (by omega) (by omega), w64 (n := (s.size : Int) - p - 1) (by omega) (by omega), w64 (n := p + 1) (by omega) (by omega), w64 (n := p + 1 + (cnt s p : Int)) (by omega) (by omega)]
        by_cases c4 : (cnt s p : Int) > (s.size : Int) - p - 1
        · rw [if_pos c4, decide_eq_false (by omega)]; simp
        · rw [if_neg c4, if_pos (by omega), if_pos (by omega), if_pos (by omega), decide_eq_true (by omega)]; simp
theorem numS_16 {s : ByteArray} {p : Int} (hp : 0 ≤ p) : numS s p 16 = true ↔ kindS s p = 3 ∧ p + 1 + (cnt s p : Int) ≤ (s.size : Int) := by
  unfold numS kindS
  simp only [Bool.and_eq_true, decide_eq_true_eq]
  constructor
  · rintro ⟨⟨⟨a, b⟩, c⟩, d⟩
    rw [if_neg (by omega)]
    exact ⟨kd3.2 ⟨b, c⟩, d⟩
  · rintro ⟨a, d⟩
    split at a
    · exact absurd a (by decide)
    · have := kd3.1 a
      exact ⟨⟨⟨by omega, this.1⟩, this.2⟩, d⟩
theorem numS_32 {s : ByteArray} {p : Int} (hp : 0 ≤ p) : numS s p 32 = true ↔ kindS s p = 4 ∧ p + 1 + (cnt s p : Int) ≤ (s.size : Int) := by
  unfold numS kindS
  simp only [Bool.and_eq_true, decide_eq_true_eq]
  constructor
  · rintro ⟨⟨⟨a, b⟩, c⟩, d⟩
    rw [if_neg (by omega)]
    exact ⟨kd4.2 ⟨b, c⟩, d⟩
  · rintro ⟨a, d⟩
    split at a
    · exact absurd a (by decide)
    · have := kd4.1 a
      exact ⟨⟨⟨by omega, this.1⟩, this.2⟩, d⟩
theorem cnt_of {s : ByteArray} {p : Int} (h : kindS s p = 3 ∨ kindS s p = 4) : 1 ≤ cnt s p ∧ cnt s p ≤ 8 := by
  obtain ⟨a, b, c⟩ := kindS_in (s := s) (p := p) (by omega)
  rw [c] at h
  unfold cnt
  rcases h with h | h
  · have := kd3.1 h; omega
  · have := kd4.1 h; omega
def uS (s : ByteArray) (p : Int) : Option (Int × Int) := if kindS s p = 3 ∧ p + 1 + (cnt s p : Int) ≤ (s.size : Int) ∧ nb (val s p) = (cnt s p : Int) then some (val s p, p + 1 + (cnt s p : Int)) else none
def sS (s : ByteArray) (p : Int) : Option (Int × Int) := if kindS s p = 4 ∧ p + 1 + (cnt s p : Int) ≤ (s.size : Int) ∧ ss (sgn (cnt s p) (val s p)) = (cnt s p : Int) then some (sgn (cnt s p) (val s p), p + 1 + (cnt s p : Int)) else none
def opt3 (o : Option (Int × Int)) : Int × Int × Bool := match o with | some (v, e) => (v, e, true) | none => (0, 0, false)
end Go.Proofs.YtndeikikeeeigaaDoor.Pure
end
section
namespace Go.Proofs.YtndeikikeeeigaaDoor.Pure
open Go.RowKit Go.Proofs.YtndeikikeeeigaaDoor.Q Go.Proofs.YtndeikikeeeigaaDoorW.PrintWords Go.Proofs.YtndeikikeeeigaaDoorW.PrintLast Go.Proofs.YtndeikikeeeigaaDoorW.PrintMore
set_option linter.unusedVariables false
set_option linter.unusedSimpArgs false
theorem refRU_loop (s : ByteArray) (p : Int) (n : Nat) (hp : 0 ≤ p) (h8 : n ≤ 8) (hn : p + 1 + (n : Int) ≤ (s.size : Int)) (hz : s.size ≤ 140737488355327) :
    ∀ (d i : Nat), i + d = n → ∀ k, plenumref02_ReadUnsigned.l0 (k + d + 9) p (s.extract (p + 1).toNat (p + 1 + (n : Int)).toNat) true (beN s (p + 1) i) i =
      some (opt3 (if nb (beN s (p + 1) n) = (n : Int) then some (beN s (p + 1) n, p + 1 + (n : Int)) else none)) := by
  have hs : ((s.extract (p + 1).toNat (p + 1 + (n : Int)).toNat).size : Int) = (n : Int) := by rw [ext_size _ _ _ (by omega) (by omega)]; omega
  intro d
  induction d with
  | zero =>
    intro i hi k
    obtain rfl : i = n := by omega
    have hr := beN_range s (p + 1) i
    have hlt : beN s (p + 1) i < 256 ^ 8 := beN_lt h8
    simp only [Int.reducePow] at hlt
    rw [show k + 0 + 9 = (k + 8) + 1 by omega]
    rw [plenumref02_ReadUnsigned.l0, hs, if_neg (by omega), if_pos rfl, refU_eq _ _ hr.1 (by omega)]
    rw [Option.bind_some]
    have hnb := nb_range (beN s (p + 1) i)
    have hsz : ((strOfNums ((16 + nb (beN s (p + 1) i)) :: beL (beN s (p + 1) i) (nb (beN s (p + 1) i)).toNat)).size : Int) = 1 + nb (beN s (p + 1) i) := by
      rw [strOfNums_size, List.length_cons, beL_length]; omega
    generalize strOfNums ((16 + nb (beN s (p + 1) i)) :: beL (beN s (p + 1) i) (nb (beN s (p + 1) i)).toNat) = enc at hsz ⊢
    have w1 : wrap64 ((i : Int) + 1) = (i : Int) + 1 := w64 (by omega) (by omega)
    have w2 : wrap64 (wrap64 (p + 1) + (i : Int)) = p + 1 + (i : Int) := by rw [w64 (n := p + 1) (by omega) (by omega), w64 (by omega) (by omega)]
    by_cases c : nb (beN s (p + 1) i) = (i : Int)
    · rw [if_pos c, if_pos (by omega), w2, opt3]
    · rw [if_neg c, if_neg (by omega), opt3]
  | succ d ih =>
    intro i hi k
    have hr := beN_range s (p + 1) i
    have hlt : beN s (p + 1) i < 256 ^ 7 := beN_lt (by omega)
    simp only [Int.reducePow] at hlt
    have hb := bt_range s (p + 1 + (i : Int))
    have hbt : bt (s.extract (p + 1).toNat (p + 1 + (n : Int)).toNat) (i : Int) = bt s (p + 1 + (i : Int)) := by
      rw [bt_ext _ _ _ _ (by omega) (by omega) (by omega) (by omega)]
      congr 1
      omega
    rw [show k + (d + 1) + 9 = (k + d + 9) + 1 by omega]
    rw [plenumref02_ReadUnsigned.l0, hs, if_pos (by omega), if_pos (by omega), hbt, w64 (n := (i : Int) + 1) (by omega) (by omega), u64w, u64w,
      Int.emod_eq_of_lt (b := 18446744073709551616) (a := beN s (p + 1) i * 256) (by omega) (by omega), Int.emod_eq_of_lt (b := 18446744073709551616) (a := bt s (p + 1 + (i : Int))) (by omega) (by omega), or_u64 _ _ hr.1 (by omega) hb.1 (by omega)]
    have := ih (i + 1) (by omega) k
    rw [show ((i + 1 : Nat) : Int) = (i : Int) + 1 by omega, show beN s (p + 1) (i + 1) = beN s (p + 1) i * 256 + bt s (p + 1 + (i : Int)) from rfl] at this
    exact this
theorem refRU_eq (k : Nat) (s : ByteArray) (p : Int) (hp : 0 ≤ p) (hz : s.size ≤ 140737488355327) : plenumref02_ReadUnsigned.f (k + 18) s p = some (opt3 (uS s p)) := by
  unfold plenumref02_ReadUnsigned.f uS
  rw [show k + 18 = (k + 16) + 2 from rfl, refNumber_eq _ s p 16 (Or.inl rfl) hp hz]
  simp only [Option.bind_some]
  by_cases c : numS s p 16 = true
  · rw [if_pos c]
    have h := (numS_16 hp).1 c
    have hc := cnt_of (Or.inl h.1)
    have := refRU_loop s p (cnt s p) hp (by omega) h.2 hz (cnt s p) 0 (by omega) (k + 9 - cnt s p)
    rw [show k + 9 - cnt s p + cnt s p + 9 = k + 16 + 2 by omega] at this
    refine this.trans ?_
    show some (opt3 (if nb (val s p) = (cnt s p : Int) then some (val s p, p + 1 + (cnt s p : Int)) else none)) = _
    by_cases c2 : nb (val s p) = (cnt s p : Int)
    · rw [if_pos c2, if_pos ⟨h.1, h.2, c2⟩]
    · rw [if_neg c2, if_neg (fun h' => c2 h'.2.2)]
  · rw [if_neg c, if_neg (fun h' => c ((numS_16 hp).2 ⟨h'.1, h'.2.1⟩))]
    show plenumref02_ReadUnsigned.l0 ((k + 17) + 1) p (⟨#[]⟩ : ByteArray) false 0 0 = _
    rw [plenumref02_ReadUnsigned.l0]
    rfl
end Go.Proofs.YtndeikikeeeigaaDoor.Pure
end
section
namespace Go.Proofs.YtndeikikeeeigaaDoor.Pure
open Go.RowKit Go.Proofs.YtndeikikeeeigaaDoor.Q Go.Proofs.YtndeikikeeeigaaDoorW.PrintWords Go.Proofs.YtndeikikeeeigaaDoorW.PrintLast Go.Proofs.YtndeikikeeeigaaDoorW.PrintMore
set_option linter.unusedVariables false
set_option linter.unusedSimpArgs false
def sx (s : ByteArray) (q : Int) : Nat → Int
  | 0 => if bt s q ≥ 128 then -1 else 0
  | i + 1 => sgn (i + 1) (beN s q (i + 1))
theorem sgn_or (i : Nat) (V : Int) : (sgn (i + 1) V = V ∧ V < 128 * 256 ^ i) ∨ (sgn (i + 1) V = V - 256 ^ i * 256 ∧ 128 * 256 ^ i ≤ V) := by
  have e : sgn (i + 1) V = if V < 128 * 256 ^ i then V else V - 256 ^ i * 256 := by unfold sgn; rw [Int.pow_succ]; rfl
  rw [e]
  by_cases c : V < 128 * 256 ^ i
  · rw [if_pos c]; exact Or.inl ⟨rfl, c⟩
  · rw [if_neg c]; exact Or.inr ⟨rfl, by omega⟩
theorem beN_succ (s : ByteArray) (q : Int) (n : Nat) : beN s q (n + 1) = beN s q n * 256 + bt s (q + (n : Int)) := rfl
theorem sx_step (s : ByteArray) (q : Int) (i : Nat) : sx s q (i + 1) = sx s q i * 256 + bt s (q + (i : Int)) := by
  have hb := bt_range s (q + (i : Int))
  cases i with
  | zero =>
    have e : q + ((0 : Nat) : Int) = q := by omega
    rw [e] at hb ⊢
    have h1 : beN s q 1 = bt s q := by rw [beN_succ, e]; show (0 : Int) * 256 + _ = _; omega
    have h2 := sgn_or 0 (beN s q 1)
    rw [h1] at h2
    have h3 : sx s q (0 + 1) = sgn (0 + 1) (bt s q) := by rw [← h1]; rfl
    have h4 : sx s q 0 = if bt s q ≥ 128 then -1 else 0 := rfl
    rw [h3, h4]
    simp only [Int.reducePow] at h2
    split <;> omega
  | succ i =>
    have h1 := beN_succ s q (i + 1)
    have h2 := sgn_or (i + 1) (beN s q (i + 1 + 1))
    have h3 := sgn_or i (beN s q (i + 1))
    have h4 : sx s q (i + 1 + 1) = sgn (i + 1 + 1) (beN s q (i + 1 + 1)) := rfl
    have h5 : sx s q (i + 1) = sgn (i + 1) (beN s q (i + 1)) := rfl
    rw [h4, h5]
    rw [Int.pow_succ (256 : Int) i] at h2
    generalize (256 : Int) ^ i = P at *
    omega
theorem sx_range (s : ByteArray) (q : Int) (i : Nat) (h : i ≤ 7) : -9223372036854775808 ≤ sx s q i * 256 ∧ sx s q i * 256 ≤ 9223372036854775807 := by
  cases i with
  | zero => simp only [sx]; split <;> omega
  | succ i =>
    have hr := beN_range s q (i + 1)
    simp only [sx, sgn]
    obtain rfl | rfl | rfl | rfl | rfl | rfl | rfl : i = 0 ∨ i = 1 ∨ i = 2 ∨ i = 3 ∨ i = 4 ∨ i = 5 ∨ i = 6 := by omega
    all_goals simp only [Int.reducePow, Nat.reduceSub, Nat.reduceAdd] at hr ⊢
    all_goals split <;> omega
theorem refRS_loop (s : ByteArray) (p : Int) (n : Nat) (hp : 0 ≤ p) (h1 : 1 ≤ n) (h8 : n ≤ 8) (hn : p + 1 + (n : Int) ≤ (s.size : Int)) (hz : s.size ≤ 140737488355327) :
    ∀ (d i : Nat), i + d = n → ∀ k, plenumref02_ReadSigned.l0 (k + d + 9) p (s.extract (p + 1).toNat (p + 1 + (n : Int)).toNat) true (sx s (p + 1) i) i =
      some (opt3 (if ss (sx s (p + 1) n) = (n : Int) then some (sx s (p + 1) n, p + 1 + (n : Int)) else none)) := by
  have hs : ((s.extract (p + 1).toNat (p + 1 + (n : Int)).toNat).size : Int) = (n : Int) := by rw [ext_size _ _ _ (by omega) (by omega)]; omega
  intro d
  induction d with
  | zero =>
    intro i hi k
    obtain rfl : i = n := by omega
    have hr : -9223372036854775808 ≤ sx s (p + 1) i ∧ sx s (p + 1) i ≤ 9223372036854775807 := by
      obtain ⟨m, rfl⟩ : ∃ m, i = m + 1 := ⟨i - 1, by omega⟩
      exact sgn_range h1 h8 (beN_range _ _ _)
    rw [show k + 0 + 9 = (k + 8) + 1 by omega]
    rw [plenumref02_ReadSigned.l0, hs, if_neg (by omega), if_pos rfl, refS_eq _ _ hr.1 hr.2]
    rw [Option.bind_some]
    have hnb := ss_range (sx s (p + 1) i) hr.1 hr.2
    have hsz : ((strOfNums ((32 + ss (sx s (p + 1) i)) :: beL (sx s (p + 1) i) (ss (sx s (p + 1) i)).toNat)).size : Int) = 1 + ss (sx s (p + 1) i) := by
      rw [strOfNums_size, List.length_cons, beL_length]; omega
    generalize strOfNums ((32 + ss (sx s (p + 1) i)) :: beL (sx s (p + 1) i) (ss (sx s (p + 1) i)).toNat) = enc at hsz ⊢
    have w1 : wrap64 ((i : Int) + 1) = (i : Int) + 1 := w64 (by omega) (by omega)
    have w2 : wrap64 (wrap64 (p + 1) + (i : Int)) = p + 1 + (i : Int) := by rw [w64 (n := p + 1) (by omega) (by omega), w64 (by omega) (by omega)]
    by_cases c : ss (sx s (p + 1) i) = (i : Int)
    · rw [if_pos c, if_pos (by omega), w2, opt3]
    · rw [if_neg c, if_neg (by omega), opt3]
  | succ d ih =>
    intro i hi k
    have hr := sx_range s (p + 1) i (by omega)
    have hb := bt_range s (p + 1 + (i : Int))
    have hbt : bt (s.extract (p + 1).toNat (p + 1 + (n : Int)).toNat) (i : Int) = bt s (p + 1 + (i : Int)) := by
      rw [bt_ext _ _ _ _ (by omega) (by omega) (by omega) (by omega)]
      congr 1
      omega
    rw [show k + (d + 1) + 9 = (k + d + 9) + 1 by omega]
    rw [plenumref02_ReadSigned.l0, hs, if_pos (by omega), if_pos (by omega), hbt, w64 (n := (i : Int) + 1) (by omega) (by omega), w64 (n := bt s (p + 1 + (i : Int))) (by omega) (by omega),
      w64 (n := sx s (p + 1) i * 256) hr.1 hr.2, or_i64 _ _ hr.1 hr.2 hb.1 (by omega), ← sx_step]
    have := ih (i + 1) (by omega) k
    rw [show ((i + 1 : Nat) : Int) = (i : Int) + 1 by omega] at this
    exact this
theorem refRS_eq (k : Nat) (s : ByteArray) (p : Int) (hp : 0 ≤ p) (hz : s.size ≤ 140737488355327) : plenumref02_ReadSigned.f (k + 20) s p = some (opt3 (sS s p)) := by
  unfold plenumref02_ReadSigned.f sS
  rw [show k + 20 = (k + 18) + 2 from rfl, refNumber_eq _ s p 32 (Or.inr rfl) hp hz]
  rw [Option.bind_some]
  by_cases c : numS s p 32 = true
  · rw [if_pos c]
    have h := (numS_32 hp).1 c
    have hc := cnt_of (Or.inr h.1)
    have hs : ((s.extract (p + 1).toNat (p + 1 + (cnt s p : Int)).toNat).size : Int) = (cnt s p : Int) := by rw [ext_size _ _ _ (by omega) (by omega)]; omega
    have hb0 : bt (s.extract (p + 1).toNat (p + 1 + (cnt s p : Int)).toNat) 0 = bt s (p + 1) := by
      rw [bt_ext _ _ _ _ (by omega) (by omega) (by omega) (by omega)]
      congr 1
      omega
    have := refRS_loop s p (cnt s p) hp hc.1 hc.2 h.2 hz (cnt s p) 0 (by omega) (k + 9 - cnt s p)
    rw [show k + 9 - cnt s p + cnt s p + 9 = k + 18 by omega] at this
    have e : sx s (p + 1) (cnt s p) = sgn (cnt s p) (val s p) := by
      obtain ⟨m, hm⟩ : ∃ m, cnt s p = m + 1 := ⟨cnt s p - 1, by omega⟩
      unfold val
      rw [hm]
      rfl
    rw [e] at this
    rw [if_pos rfl, hs, if_pos (by omega), hb0]
    rw [show k + 18 + 2 = (k + 18 + 1) + 1 from rfl, plenumref02_ReadSigned.j0]
    have hfin : plenumref02_ReadSigned.l0 (k + 18) p (s.extract (p + 1).toNat (p + 1 + (cnt s p : Int)).toNat) true (if bt s (p + 1) ≥ 128 then -1 else 0) 0 =
        some (opt3 (if kindS s p = 4 ∧ p + 1 + (cnt s p : Int) ≤ (s.size : Int) ∧ ss (sgn (cnt s p) (val s p)) = (cnt s p : Int) then some (sgn (cnt s p) (val s p), p + 1 + (cnt s p : Int)) else none)) := by
      refine this.trans ?_
      by_cases c2 : ss (sgn (cnt s p) (val s p)) = (cnt s p : Int)
      · rw [if_pos c2, if_pos ⟨h.1, h.2, c2⟩]
      · rw [if_neg c2, if_neg (fun h' => c2 h'.2.2)]
    by_cases c3 : bt s (p + 1) ≥ 128
    · rw [decide_eq_true c3, if_pos rfl, plenumref02_ReadSigned.j1]
      rw [if_pos c3] at hfin
      exact hfin
    · rw [decide_eq_false c3, if_neg (by decide), plenumref02_ReadSigned.j1]
      rw [if_neg c3] at hfin
      exact hfin
  · rw [if_neg c, if_neg (c := (((⟨#[]⟩ : ByteArray), false) : ByteArray × Bool).2 = true) (by decide), if_neg (fun h' => c ((numS_32 hp).2 ⟨h'.1, h'.2.1⟩))]
    rw [show k + 18 + 2 = (k + 17 + 1 + 1) + 1 from rfl, plenumref02_ReadSigned.j0, if_neg (by decide), plenumref02_ReadSigned.j1, plenumref02_ReadSigned.l0, if_neg (by decide), if_neg (by decide), opt3]
theorem rawS3 (s : ByteArray) (p : Int) : (∀ v e, uS s p = some (v, e) → rawS s p 3 = (v, e, true)) ∧ (uS s p = none → (rawS s p 3).2.2 = false) := by
  unfold uS rawS
  refine ⟨fun v e h => ?_, fun h => ?_⟩
  · split at h
    · rename_i c
      obtain ⟨rfl, rfl⟩ := Prod.mk.inj (Option.some.inj h)
      rw [if_pos c.1, if_neg (by omega), if_pos rfl, c.2.2]
      simp
    · cases h
  · split at h
    · cases h
    · rename_i c
      by_cases c1 : kindS s p = 3
      · rw [if_pos c1]
        by_cases c2 : p + 1 + (cnt s p : Int) > (s.size : Int)
        · rw [if_pos c2]
        · rw [if_neg c2, if_pos rfl]
          show (nb (val s p) == (cnt s p : Int)) = false
          rw [beq_eq_false_iff_ne]
          exact fun h' => c ⟨c1, by omega, h'⟩
      · rw [if_neg c1]
theorem rawS4 (s : ByteArray) (p : Int) : (∀ v e, sS s p = some (v, e) → rawS s p 4 = (IntKind.u64.wrap v, e, true)) ∧ (sS s p = none → (rawS s p 4).2.2 = false) := by
  unfold sS rawS
  refine ⟨fun v e h => ?_, fun h => ?_⟩
  · split at h
    · rename_i c
      obtain ⟨rfl, rfl⟩ := Prod.mk.inj (Option.some.inj h)
      rw [if_pos c.1, if_neg (by omega), if_neg (by decide), c.2.2]
      simp
    · cases h
  · split at h
    · cases h
    · rename_i c
      by_cases c1 : kindS s p = 4
      · rw [if_pos c1]
        by_cases c2 : p + 1 + (cnt s p : Int) > (s.size : Int)
        · rw [if_pos c2]
        · rw [if_neg c2, if_neg (by decide)]
          show (ss (sgn (cnt s p) (val s p)) == (cnt s p : Int)) = false
          rw [beq_eq_false_iff_ne]
          exact fun h' => c ⟨c1, by omega, h'⟩
      · rw [if_neg c1]
theorem uS_some {s : ByteArray} {p v e : Int} (h : uS s p = some (v, e)) : 0 ≤ p ∧ p + 1 < e ∧ e ≤ (s.size : Int) ∧ 0 ≤ v ∧ v < 18446744073709551616 := by
  unfold uS at h
  split at h
  · rename_i c
    obtain ⟨rfl, rfl⟩ := Prod.mk.inj (Option.some.inj h)
    have hc := cnt_of (Or.inl c.1)
    have hk := kindS_in (s := s) (p := p) (by omega)
    have hr := beN_range s (p + 1) (cnt s p)
    have hlt : beN s (p + 1) (cnt s p) < 256 ^ 8 := beN_lt hc.2
    simp only [Int.reducePow] at hlt
    unfold val
    omega
  · cases h
theorem sS_some {s : ByteArray} {p v e : Int} (h : sS s p = some (v, e)) : 0 ≤ p ∧ p + 1 < e ∧ e ≤ (s.size : Int) ∧ -9223372036854775808 ≤ v ∧ v ≤ 9223372036854775807 := by
  unfold sS at h
  split at h
  · rename_i c
    obtain ⟨rfl, rfl⟩ := Prod.mk.inj (Option.some.inj h)
    have hc := cnt_of (Or.inr c.1)
    have hk := kindS_in (s := s) (p := p) (by omega)
    have hr := sgn_range hc.1 hc.2 (beN_range s (p + 1) (cnt s p))
    unfold val
    omega
  · cases h
def tS (s : ByteArray) (p : Int) : Option (ByteArray × Int) :=
  if kindS s p = 5 then match uS s (p + 1) with
    | some (v, e) => if v > 65535 then none else if v > (s.size : Int) - e then none else some (s.extract e.toNat (e + v).toNat, e + v)
    | none => none
  else none
def lS (s : ByteArray) (p : Int) : Option (Int × Int) :=
  if kindS s p = 6 then match uS s (p + 1) with
    | some (v, e) => if v > 65535 then none else some (v, e)
    | none => none
  else none
def optT (o : Option (ByteArray × Int)) : ByteArray × Int × Bool := match o with | some (v, e) => (v, e, true) | none => ((⟨#[]⟩ : ByteArray), 0, false)
theorem text_eq (k : Nat) (s : ByteArray) (p : Int) (hz : s.size ≤ 140737488355327) : codec_text.f (k + 12) s p = some (optT (tS s p)) := by
  unfold codec_text.f tS
  rw [show k + 12 = (k + 9) + 3 from rfl, kind_eq, Option.bind_some]
  by_cases c : kindS s p = 5
  · have hk := kindS_in (s := s) (p := p) (by omega)
    rw [if_pos c, if_pos c, show k + 9 + 3 = k + 12 from rfl, w64 (n := p + 1) (by omega) (by omega), raw_eq _ _ _ _ (Or.inl rfl) hz, Option.bind_some]
    cases hu : uS s (p + 1) with
    | none =>
      rw [(rawS3 s (p + 1)).2 hu, if_neg (by decide)]
      rfl
    | some ve =>
      obtain ⟨v, e⟩ := ve
      have hb := uS_some hu
      show _ = some (optT (if v > 65535 then none else if v > (s.size : Int) - e then none else some (s.extract e.toNat (e + v).toNat, e + v)))
      rw [(rawS3 s (p + 1)).1 v e hu, if_pos (show ((v, e, true) : Int × Int × Bool).2.2 = true from rfl), show ((v, e, true) : Int × Int × Bool).1 = v from rfl, show ((v, e, true) : Int × Int × Bool).2.1 = e from rfl]
      by_cases c1 : v > 65535
      · rw [if_pos c1, if_pos c1]; rfl
      · rw [if_neg c1, if_neg c1, w64 (n := v) (by omega) (by omega), w64 (n := (s.size : Int) - e) (by omega) (by omega), w64 (n := e + v) (by omega) (by omega)]
        by_cases c2 : v > (s.size : Int) - e
        · rw [if_pos c2, if_pos c2]; rfl
        · rw [if_neg c2, if_neg c2, if_pos (by omega), if_pos (by omega), if_pos (by omega)]; rfl
  · rw [if_neg c, if_neg c]; rfl
theorem list_eq (k : Nat) (s : ByteArray) (p : Int) (hz : s.size ≤ 140737488355327) : codec_list.f (k + 12) s p = some (opt3 (lS s p)) := by
  unfold codec_list.f lS
  rw [show k + 12 = (k + 9) + 3 from rfl, kind_eq, Option.bind_some]
  by_cases c : kindS s p = 6
  · have hk := kindS_in (s := s) (p := p) (by omega)
    rw [if_pos c, if_pos c, show k + 9 + 3 = k + 12 from rfl, w64 (n := p + 1) (by omega) (by omega), raw_eq _ _ _ _ (Or.inl rfl) hz, Option.bind_some]
    cases hu : uS s (p + 1) with
    | none =>
      rw [(rawS3 s (p + 1)).2 hu, if_neg (by decide)]
      rfl
    | some ve =>
      obtain ⟨v, e⟩ := ve
      have hb := uS_some hu
      show _ = some (opt3 (if v > 65535 then none else some (v, e)))
      rw [(rawS3 s (p + 1)).1 v e hu, if_pos (show ((v, e, true) : Int × Int × Bool).2.2 = true from rfl), show ((v, e, true) : Int × Int × Bool).1 = v from rfl, show ((v, e, true) : Int × Int × Bool).2.1 = e from rfl]
      by_cases c1 : v > 65535
      · rw [if_pos c1, if_pos c1]; rfl
      · rw [if_neg c1, if_neg c1, w64 (n := v) (by omega) (by omega)]; rfl
  · rw [if_neg c, if_neg c]; rfl
theorem kd5 {b : Int} : kd b = 5 ↔ b = 48 := by unfold kd; omega
theorem kd6 {b : Int} : kd b = 6 ↔ b = 64 := by unfold kd; omega
theorem refRT_eq (k : Nat) (s : ByteArray) (p : Int) (hp : 0 ≤ p) (hz : s.size ≤ 140737488355327) : plenumref02_ReadText.f (k + 19) s p = some (optT (tS s p)) := by
  unfold plenumref02_ReadText.f tS
  rw [show k + 19 = (k + 18) + 1 from rfl, plenumref02_ReadText.j0, plenumref02_ReadText.j0]
  by_cases c0 : p ≥ (s.size : Int)
  · rw [if_pos c0, if_pos rfl, if_neg (by unfold kindS; rw [if_pos (Or.inr c0)]; decide)]; rfl
  · have hk : kindS s p = kd (bt s p) := by unfold kindS; rw [if_neg (by omega)]
    rw [if_neg c0, if_pos hp, if_pos (by omega), hk]
    by_cases c : bt s p = 48
    · rw [if_neg (by simp [c]), if_pos (kd5.2 c), w64 (n := p + 1) (by omega) (by omega), refRU_eq _ _ _ (by omega) hz, Option.bind_some]
      cases hu : uS s (p + 1) with
      | none => rfl
      | some ve =>
        obtain ⟨v, e⟩ := ve
        have hb := uS_some hu
        show _ = some (optT (if v > 65535 then none else if v > (s.size : Int) - e then none else some (s.extract e.toNat (e + v).toNat, e + v)))
        rw [show opt3 (some (v, e)) = (v, e, true) from rfl, if_pos (show ((v, e, true) : Int × Int × Bool).2.2 = true from rfl), show ((v, e, true) : Int × Int × Bool).1 = v from rfl, show ((v, e, true) : Int × Int × Bool).2.1 = e from rfl]
        by_cases c1 : v > 65535
        · rw [if_pos c1, if_pos c1]; rfl
        · rw [if_neg c1, if_neg c1, w64 (n := v) (by omega) (by omega), w64 (n := (s.size : Int) - e) (by omega) (by omega), w64 (n := e + v) (by omega) (by omega)]
          by_cases c2 : v > (s.size : Int) - e
          · rw [if_pos c2, if_pos c2]; rfl
          · rw [if_neg c2, if_neg c2, if_pos (by omega), if_pos (by omega), if_pos (by omega)]; rfl
    · rw [if_pos (by simp [c]), if_neg (fun h => c (kd5.1 h))]; rfl
theorem refRH_eq (k : Nat) (s : ByteArray) (p : Int) (hp : 0 ≤ p) (hz : s.size ≤ 140737488355327) : plenumref02_ReadHead.f (k + 19) s p = some (opt3 (lS s p)) := by
  unfold plenumref02_ReadHead.f lS
  rw [show k + 19 = (k + 18) + 1 from rfl, plenumref02_ReadHead.j0, plenumref02_ReadHead.j0]
  by_cases c0 : p ≥ (s.size : Int)
  · rw [if_pos c0, if_pos rfl, if_neg (by unfold kindS; rw [if_pos (Or.inr c0)]; decide)]; rfl
  · have hk : kindS s p = kd (bt s p) := by unfold kindS; rw [if_neg (by omega)]
    rw [if_neg c0, if_pos hp, if_pos (by omega), hk]
    by_cases c : bt s p = 64
    · rw [if_neg (by simp [c]), if_pos (kd6.2 c), w64 (n := p + 1) (by omega) (by omega), refRU_eq _ _ _ (by omega) hz, Option.bind_some]
      cases hu : uS s (p + 1) with
      | none => rfl
      | some ve =>
        obtain ⟨v, e⟩ := ve
        have hb := uS_some hu
        show _ = some (opt3 (if v > 65535 then none else some (v, e)))
        rw [show opt3 (some (v, e)) = (v, e, true) from rfl, if_pos (show ((v, e, true) : Int × Int × Bool).2.2 = true from rfl), show ((v, e, true) : Int × Int × Bool).1 = v from rfl, show ((v, e, true) : Int × Int × Bool).2.1 = e from rfl]
        by_cases c1 : v > 65535
        · rw [if_pos c1, if_pos c1]; rfl
        · rw [if_neg c1, if_neg c1, w64 (n := v) (by omega) (by omega)]; rfl
    · rw [if_pos (by simp [c]), if_neg (fun h => c (kd6.1 h))]; rfl
end Go.Proofs.YtndeikikeeeigaaDoor.Pure
end
section
namespace Go.Proofs.YtndeikikeeeigaaDoor.Pure
open Go.RowKit Go.Proofs.YtndeikikeeeigaaDoor.Q Go.Proofs.YtndeikikeeeigaaDoorW.PrintWords Go.Proofs.YtndeikikeeeigaaDoorW.PrintLast Go.Proofs.YtndeikikeeeigaaDoorW.PrintMore
set_option linter.unusedVariables false
set_option linter.unusedSimpArgs false
def Alike (s : ByteArray) (p D : Int) (r : Int × Int × Bool) (r' : Int × Int) : Prop :=
  (r.2.2 = true ∧ r' = (r.1, r.2.1) ∧ p ≤ r.1 ∧ r.1 ≤ (s.size : Int) ∧ 0 ≤ r.2.1 ∧ r.2.1 ≤ D) ∨ (r.2.2 = false ∧ r' = (-1, 0))
def Both (s : ByteArray) (p : Int) (D : Int) (f : Nat → Option (Int × Int × Bool)) (g : Nat → Option (Int × Int)) : Prop :=
  ∃ K r r', (∀ k, f (k + K) = some r) ∧ (∀ k, g (k + K) = some r') ∧ Alike s p D r r'
theorem lS_some {s : ByteArray} {p v e : Int} (h : lS s p = some (v, e)) : 0 ≤ p ∧ p + 1 < e ∧ e ≤ (s.size : Int) ∧ 0 ≤ v ∧ v ≤ 65535 := by
  unfold lS at h
  by_cases c : kindS s p = 6
  · have hk := kindS_in (s := s) (p := p) (by omega)
    rw [if_pos c] at h
    cases hu : uS s (p + 1) with
    | none => rw [hu] at h; cases h
    | some ve =>
      obtain ⟨v', e'⟩ := ve
      have hb := uS_some hu
      rw [hu] at h
      have h' : (if v' > 65535 then none else some (v', e')) = some (v, e) := h
      by_cases c1 : v' > 65535
      · rw [if_pos c1] at h'; cases h'
      · rw [if_neg c1] at h'
        obtain ⟨rfl, rfl⟩ := Prod.mk.inj (Option.some.inj h')
        omega
  · rw [if_neg c] at h; cases h
theorem tS_some {s : ByteArray} {p : Int} {t : ByteArray} {e : Int} (h : tS s p = some (t, e)) : 0 ≤ p ∧ p + 1 < e ∧ e ≤ (s.size : Int) := by
  unfold tS at h
  by_cases c : kindS s p = 5
  · have hk := kindS_in (s := s) (p := p) (by omega)
    rw [if_pos c] at h
    cases hu : uS s (p + 1) with
    | none => rw [hu] at h; cases h
    | some ve =>
      obtain ⟨v', e'⟩ := ve
      have hb := uS_some hu
      rw [hu] at h
      have h' : (if v' > 65535 then none else if v' > (s.size : Int) - e' then none else some (s.extract e'.toNat (e' + v').toNat, e' + v')) = some (t, e) := h
      by_cases c1 : v' > 65535
      · rw [if_pos c1] at h'; cases h'
      · rw [if_neg c1] at h'
        by_cases c2 : v' > (s.size : Int) - e'
        · rw [if_pos c2] at h'; cases h'
        · rw [if_neg c2] at h'
          obtain ⟨rfl, rfl⟩ := Prod.mk.inj (Option.some.inj h')
          omega
  · rw [if_neg c] at h; cases h
theorem skip_loop (s : ByteArray) (hz : s.size ≤ 140737488355327) (D : Nat) (h1 : 1 ≤ D) (h16 : D ≤ 16)
    (IH : ∀ p : Int, 0 ≤ p → p ≤ (s.size : Int) → Both s p ((D - 1 : Nat) : Int) (fun k => codec_skip.f k s p ((D - 1 : Nat) : Int)) (fun k => plenumref02_Skip.f k s p ((D - 1 : Nat) : Int))) (n : Int) (hn : n ≤ 65535) :
    ∀ (c : Nat) (i q m : Int), i + (c : Int) = n → 0 ≤ i → 0 ≤ q → q ≤ (s.size : Int) → 0 ≤ m → m ≤ (D : Int) - 1 →
      Both s q D (fun k => codec_skip.l0 k s (D : Int) q m n i) (fun k => plenumref02_Skip.l0 k s (D : Int) n q m i) := by
  intro c
  induction c with
  | zero =>
    intro i q m hi h0 hq0 hq1 hm0 hm1
    refine ⟨1, (q, m + 1, true), (q, m + 1), fun k => ?_, fun k => ?_, Or.inl ⟨rfl, rfl, by omega, hq1, by show 0 ≤ m + 1; omega, by show m + 1 ≤ _; omega⟩⟩
    · show codec_skip.l0 (k + 1) s (D : Int) q m n i = _
      rw [codec_skip.l0, if_neg (by omega), w64 (n := m + 1) (by omega) (by omega)]
    · show plenumref02_Skip.l0 (k + 1) s (D : Int) n q m i = _
      rw [plenumref02_Skip.l0, if_neg (by omega), w64 (n := m + 1) (by omega) (by omega)]
  | succ c ih =>
    intro i q m hi h0 hq0 hq1 hm0 hm1
    have hD : wrap64 ((D : Int) - 1) = ((D - 1 : Nat) : Int) := by rw [w64 (by omega) (by omega)]; omega
    obtain ⟨K1, r, r', e1, e2, ha⟩ := IH q hq0 hq1
    simp only at e1 e2
    rcases ha with ⟨a1, rfl, a3, a4, a5, a6⟩ | ⟨a1, rfl⟩
    · have hmx : 0 ≤ mx m r.2.1 ∧ mx m r.2.1 ≤ (D : Int) - 1 := by unfold mx; split <;> omega
      obtain ⟨K2, t, t', f1, f2, hb⟩ := ih (i + 1) r.1 (mx m r.2.1) (by omega) (by omega) (by omega) a4 hmx.1 hmx.2
      simp only at f1 f2
      refine ⟨K1 + K2 + 1, t, t', fun k => ?_, fun k => ?_, ?_⟩
      · show codec_skip.l0 ((k + (K1 + K2)) + 1) s (D : Int) q m n i = _
        rw [codec_skip.l0, if_pos (by omega), hD, show k + (K1 + K2) = (k + K2) + K1 by omega, e1, Option.bind_some, if_pos a1, w64 (n := i + 1) (by omega) (by omega), show (k + K2) + K1 = (k + K1) + K2 by omega, f1]
      · show plenumref02_Skip.l0 ((k + (K1 + K2)) + 1) s (D : Int) n q m i = _
        rw [plenumref02_Skip.l0, if_pos (by omega), hD, show k + (K1 + K2) = (k + K2) + K1 by omega, e2, Option.bind_some]
        refine (if_neg (show ¬ r.1 < 0 by omega)).trans ?_
        rw [w64 (n := i + 1) (by omega) (by omega), show (k + K2) + K1 = (k + K1) + K2 by omega]
        exact f2 _
      · rcases hb with ⟨b1, b2, b3, b4, b5, b6⟩ | hb
        · exact Or.inl ⟨b1, b2, by omega, b4, b5, b6⟩
        · exact Or.inr hb
    · refine ⟨K1 + 1, (0, 0, false), (-1, 0), fun k => ?_, fun k => ?_, Or.inr ⟨rfl, rfl⟩⟩
      · show codec_skip.l0 ((k + K1) + 1) s (D : Int) q m n i = _
        rw [codec_skip.l0, if_pos (by omega), hD, e1, Option.bind_some, if_neg (by rw [a1]; decide)]
      · show plenumref02_Skip.l0 ((k + K1) + 1) s (D : Int) n q m i = _
        rw [plenumref02_Skip.l0, if_pos (by omega), hD, e2, Option.bind_some]
        exact if_pos (by decide)
theorem opt3_none : opt3 none = (0, 0, false) := rfl
theorem opt3_some (v e : Int) : opt3 (some (v, e)) = (v, e, true) := rfl
theorem optT_none : optT none = ((⟨#[]⟩ : ByteArray), 0, false) := rfl
theorem optT_some (v : ByteArray) (e : Int) : optT (some (v, e)) = (v, e, true) := rfl
theorem tt {α β : Type} (a : α) (b : β) : (a, b, true).2.2 = true := rfl
theorem ft {α β : Type} (a : α) (b : β) : ¬ (a, b, false).2.2 = true := Bool.false_ne_true
theorem skip_one (s : ByteArray) (hz : s.size ≤ 140737488355327) (D : Nat) (hD : D ≤ 16)
    (IH : 1 ≤ D → ∀ p : Int, 0 ≤ p → p ≤ (s.size : Int) → Both s p ((D - 1 : Nat) : Int) (fun k => codec_skip.f k s p ((D - 1 : Nat) : Int)) (fun k => plenumref02_Skip.f k s p ((D - 1 : Nat) : Int)))
    (p : Int) (hp0 : 0 ≤ p) (hp1 : p ≤ (s.size : Int)) : Both s p D (fun k => codec_skip.f k s p (D : Int)) (fun k => plenumref02_Skip.f k s p (D : Int)) := by
  have start : ∀ (r : Int × Int × Bool) (r' : Int × Int) (K : Nat), Alike s p D r r' →
      (∀ k, codec_skip.j0 (k + K) s p D (kindS s p) (kindS s p) (kindS s p == 1 || kindS s p == 2) = some r) →
      (∀ k, plenumref02_Skip.j0 (k + K) s p D (kindS s p) (kindS s p == 1 || kindS s p == 2) = some r') →
      Both s p D (fun k => codec_skip.f k s p (D : Int)) (fun k => plenumref02_Skip.f k s p (D : Int)) := by
    intro r r' K ha h1 h2
    refine ⟨K + 4 + 1, r, r', fun k => ?_, fun k => ?_, ha⟩
    · show codec_skip.f ((k + K + 4) + 1) s p (D : Int) = _
      rw [codec_skip.f, show k + K + 4 = (k + K + 1) + 3 from rfl, kind_eq, Option.bind_some]
      have h := h1 (k + 4)
      rw [show k + 4 + K = k + K + 1 + 3 by omega] at h
      by_cases c : kindS s p = 1
      · rw [if_pos c, ← h, c]; rfl
      · rw [if_neg c, ← h, show (kindS s p == 1) = false from beq_eq_false_iff_ne.2 c, Bool.false_or]
    · show plenumref02_Skip.f ((k + K + 4) + 1) s p (D : Int) = _
      rw [plenumref02_Skip.f, refKind_eq, Option.bind_some]
      have h := h2 (k + 4)
      rw [show k + 4 + K = k + K + 4 by omega] at h
      by_cases c : kindS s p = 1
      · rw [if_pos c, ← h, c]; rfl
      · rw [if_neg c, ← h, show (kindS s p == 1) = false from beq_eq_false_iff_ne.2 c, Bool.false_or]
  by_cases c12 : kindS s p = 1 ∨ kindS s p = 2
  · have hk := kindS_in (s := s) (p := p) (by omega)
    refine start (p + 1, 0, true) (p + 1, 0) 1 (Or.inl ⟨rfl, rfl, by show p ≤ p + 1; omega, by show p + 1 ≤ _; omega, by show (0 : Int) ≤ 0; omega, by show (0 : Int) ≤ D; omega⟩) (fun k => ?_) (fun k => ?_)
    · have hb : (kindS s p == 1 || kindS s p == 2) = true := by rcases c12 with c | c <;> rw [c] <;> rfl
      rw [codec_skip.j0, hb, if_pos rfl, w64 (n := p + 1) (by omega) (by omega)]
    · have hb : (kindS s p == 1 || kindS s p == 2) = true := by rcases c12 with c | c <;> rw [c] <;> rfl
      rw [plenumref02_Skip.j0, hb, if_pos rfl, w64 (n := p + 1) (by omega) (by omega)]
  have hb : (kindS s p == 1 || kindS s p == 2) = false := by
    rw [show (kindS s p == 1) = false from beq_eq_false_iff_ne.2 (fun h => c12 (Or.inl h)), show (kindS s p == 2) = false from beq_eq_false_iff_ne.2 (fun h => c12 (Or.inr h))]; rfl
  rw [hb] at start
  by_cases c3 : kindS s p = 3
  · rw [c3] at start
    have hraw : ∀ k, codec_skip.j0 (k + 20) s p D 3 3 false = some ((rawS s p 3).2.1, 0, (rawS s p 3).2.2) := fun k => by
      show codec_skip.j0 ((k + 18 + 1) + 1) s p D 3 3 false = _
      rw [codec_skip.j0, if_neg (by decide), if_pos rfl, codec_skip.j1, if_pos (show ((3 : Int) == 3) = true from rfl), show k + 18 = (k + 6) + 12 from rfl, raw_eq _ _ _ _ (Or.inl rfl) hz, Option.bind_some]
    have href : ∀ k, plenumref02_Skip.j0 (k + 20) s p D 3 false = (if (opt3 (uS s p)).2.2 = true then some ((opt3 (uS s p)).2.1, 0) else some ((-1), 0)) := fun k => by
      show plenumref02_Skip.j0 ((k + 1 + 18) + 1) s p D 3 false = _
      rw [plenumref02_Skip.j0, if_neg (by decide), if_pos rfl, refRU_eq _ _ _ hp0 hz, Option.bind_some]
    cases hu : uS s p with
    | none =>
      refine start ((rawS s p 3).2.1, 0, (rawS s p 3).2.2) (-1, 0) 20 (Or.inr ⟨(rawS3 s p).2 hu, rfl⟩) hraw (fun k => ?_)
      rw [href, hu, opt3_none, if_neg (ft _ _)]
    | some ve =>
      obtain ⟨v, e⟩ := ve
      have hbd := uS_some hu
      have hr := (rawS3 s p).1 v e hu
      rw [hr] at hraw
      refine start (e, 0, true) (e, 0) 20 (Or.inl ⟨rfl, rfl, by show p ≤ e; omega, by show e ≤ _; omega, by show (0 : Int) ≤ 0; omega, by show (0 : Int) ≤ D; omega⟩) hraw (fun k => ?_)
      rw [href, hu, opt3_some, if_pos (tt _ _)]
  by_cases c4 : kindS s p = 4
  · rw [c4] at start
    have hraw : ∀ k, codec_skip.j0 (k + 21) s p D 4 4 false = some ((rawS s p 4).2.1, 0, (rawS s p 4).2.2) := fun k => by
      show codec_skip.j0 ((k + 19 + 1) + 1) s p D 4 4 false = _
      rw [codec_skip.j0, if_neg (by decide), if_neg (by decide), codec_skip.j1, if_pos (show ((4 : Int) == 4) = true from rfl), show k + 19 = (k + 7) + 12 from rfl, raw_eq _ _ _ _ (Or.inr rfl) hz, Option.bind_some]
    have href : ∀ k, plenumref02_Skip.j0 (k + 21) s p D 4 false = (if (opt3 (sS s p)).2.2 = true then some ((opt3 (sS s p)).2.1, 0) else some ((-1), 0)) := fun k => by
      show plenumref02_Skip.j0 ((k + 20) + 1) s p D 4 false = _
      rw [plenumref02_Skip.j0, if_neg (by decide), if_neg (by decide), if_pos rfl, refRS_eq _ _ _ hp0 hz, Option.bind_some]
    cases hu : sS s p with
    | none =>
      refine start ((rawS s p 4).2.1, 0, (rawS s p 4).2.2) (-1, 0) 21 (Or.inr ⟨(rawS4 s p).2 hu, rfl⟩) hraw (fun k => ?_)
      rw [href, hu, opt3_none, if_neg (ft _ _)]
    | some ve =>
      obtain ⟨v, e⟩ := ve
      have hbd := sS_some hu
      have hr := (rawS4 s p).1 v e hu
      rw [hr] at hraw
      refine start (e, 0, true) (e, 0) 21 (Or.inl ⟨rfl, rfl, by show p ≤ e; omega, by show e ≤ _; omega, by show (0 : Int) ≤ 0; omega, by show (0 : Int) ≤ D; omega⟩) hraw (fun k => ?_)
      rw [href, hu, opt3_some, if_pos (tt _ _)]
  by_cases c5 : kindS s p = 5
  · rw [c5] at start
    have hraw : ∀ k, codec_skip.j0 (k + 20) s p D 5 5 false = some ((optT (tS s p)).2.1, 0, (optT (tS s p)).2.2) := fun k => by
      show codec_skip.j0 ((k + 18 + 1) + 1) s p D 5 5 false = _
      rw [codec_skip.j0, if_neg (by decide), if_neg (by decide), codec_skip.j1, if_neg (by decide), if_pos rfl, show k + 18 = (k + 6) + 12 from rfl, text_eq _ _ _ hz, Option.bind_some]
    have href : ∀ k, plenumref02_Skip.j0 (k + 20) s p D 5 false = (if (optT (tS s p)).2.2 = true then some ((optT (tS s p)).2.1, 0) else some ((-1), 0)) := fun k => by
      show plenumref02_Skip.j0 ((k + 19) + 1) s p D 5 false = _
      rw [plenumref02_Skip.j0, if_neg (by decide), if_neg (by decide), if_neg (by decide), if_pos rfl, refRT_eq _ _ _ hp0 hz, Option.bind_some]
    cases hu : tS s p with
    | none =>
      rw [hu, optT_none] at hraw
      refine start (0, 0, false) (-1, 0) 20 (Or.inr ⟨rfl, rfl⟩) hraw (fun k => ?_)
      rw [href, hu, optT_none, if_neg (ft _ _)]
    | some ve =>
      obtain ⟨v, e⟩ := ve
      have hbd := tS_some hu
      rw [hu, optT_some] at hraw
      refine start (e, 0, true) (e, 0) 20 (Or.inl ⟨rfl, rfl, by show p ≤ e; omega, by show e ≤ _; omega, by show (0 : Int) ≤ 0; omega, by show (0 : Int) ≤ D; omega⟩) hraw (fun k => ?_)
      rw [href, hu, optT_some, if_pos (tt _ _)]
  by_cases c6 : kindS s p = 6
  · rw [c6] at start
    have hraw : ∀ k, codec_skip.j0 (k + 20) s p D 6 6 false = (if (opt3 (lS s p)).2.2 = true then codec_skip.j2 (k + 18) s D (opt3 (lS s p)).1 (opt3 (lS s p)).2.1 ((D : Int) == 0) else codec_skip.j2 (k + 18) s D (opt3 (lS s p)).1 (opt3 (lS s p)).2.1 true) := fun k => by
      show codec_skip.j0 ((k + 18 + 1) + 1) s p D 6 6 false = _
      rw [codec_skip.j0, if_neg (by decide), if_neg (by decide), codec_skip.j1, if_neg (by decide), if_neg (by decide), if_pos rfl, show k + 18 = (k + 6) + 12 from rfl, list_eq _ _ _ hz, Option.bind_some]
    have href : ∀ k, plenumref02_Skip.j0 (k + 20) s p D 6 false = (if (opt3 (lS s p)).2.2 = true then plenumref02_Skip.j1 (k + 19) s D (opt3 (lS s p)).1 (opt3 (lS s p)).2.1 ((D : Int) == 0) else plenumref02_Skip.j1 (k + 19) s D (opt3 (lS s p)).1 (opt3 (lS s p)).2.1 true) := fun k => by
      show plenumref02_Skip.j0 ((k + 19) + 1) s p D 6 false = _
      rw [plenumref02_Skip.j0, if_neg (by decide), if_neg (by decide), if_neg (by decide), if_neg (by decide), if_pos rfl, refRH_eq _ _ _ hp0 hz, Option.bind_some]
    cases hu : lS s p with
    | none =>
      refine start (0, 0, false) (-1, 0) 20 (Or.inr ⟨rfl, rfl⟩) (fun k => ?_) (fun k => ?_)
      · rw [hraw, hu, opt3_none, if_neg (ft _ _), show k + 18 = (k + 17) + 1 from rfl, codec_skip.j2, if_pos rfl]
      · rw [href, hu, opt3_none, if_neg (ft _ _), show k + 19 = (k + 18) + 1 from rfl, plenumref02_Skip.j1, if_pos rfl]
    | some ve =>
      obtain ⟨v, e⟩ := ve
      have hbd := lS_some hu
      by_cases d0 : D = 0
      · refine start (0, 0, false) (-1, 0) 20 (Or.inr ⟨rfl, rfl⟩) (fun k => ?_) (fun k => ?_)
        · rw [hraw, hu, opt3_some, if_pos (tt _ _), show k + 18 = (k + 17) + 1 from rfl, codec_skip.j2, if_pos (by rw [d0]; rfl)]
        · rw [href, hu, opt3_some, if_pos (tt _ _), show k + 19 = (k + 18) + 1 from rfl, plenumref02_Skip.j1, if_pos (by rw [d0]; rfl)]
      · have hD0 : ¬ (((D : Int) == 0) = true) := by simp only [beq_iff_eq]; omega
        obtain ⟨K, t, t', f1, f2, ha⟩ := skip_loop s hz D (by omega) hD (IH (by omega)) v (by omega) v.toNat 0 e 0 (by omega) (by omega) (by omega) (by omega) (by omega) (by omega)
        simp only at f1 f2
        refine start t t' (K + 20) ?_ (fun k => ?_) (fun k => ?_)
        · rcases ha with ⟨b1, b2, b3, b4, b5, b6⟩ | ha
          · exact Or.inl ⟨b1, b2, by omega, b4, b5, b6⟩
          · exact Or.inr ha
        · rw [← Nat.add_assoc, hraw, hu, opt3_some, if_pos (tt _ _), show k + K + 18 = (k + 17 + K) + 1 by omega, codec_skip.j2, if_neg hD0, f1]
        · rw [← Nat.add_assoc, href, hu, opt3_some, if_pos (tt _ _), show k + K + 19 = (k + 18 + K) + 1 by omega, plenumref02_Skip.j1, if_neg hD0, f2]
  · refine start (0, 0, false) (-1, 0) 5 (Or.inr ⟨rfl, rfl⟩) (fun k => ?_) (fun k => ?_)
    · show codec_skip.j0 ((k + 3 + 1) + 1) s p D (kindS s p) (kindS s p) false = _
      rw [codec_skip.j0, if_neg (by decide), if_neg c3, codec_skip.j1, if_neg (by rw [beq_eq_false_iff_ne.2 c4]; decide), if_neg c5, if_neg c6]
    · show plenumref02_Skip.j0 ((k + 4) + 1) s p D (kindS s p) false = _
      rw [plenumref02_Skip.j0, if_neg (by decide), if_neg c3, if_neg c4, if_neg c5, if_neg c6]
theorem skip_eq (s : ByteArray) (hz : s.size ≤ 140737488355327) : ∀ (D : Nat), D ≤ 16 → ∀ p : Int, 0 ≤ p → p ≤ (s.size : Int) → Both s p D (fun k => codec_skip.f k s p (D : Int)) (fun k => plenumref02_Skip.f k s p (D : Int)) := by
  intro D
  induction D with
  | zero =>
    intro hD p hp0 hp1
    exact skip_one s hz 0 hD (fun h => absurd h (by decide)) p hp0 hp1
  | succ D ih =>
    intro hD p hp0 hp1
    exact skip_one s hz (D + 1) hD (fun _ => ih (by omega)) p hp0 hp1
end Go.Proofs.YtndeikikeeeigaaDoor.Pure
end
section
namespace Go.Proofs.YtndeikikeeeigaaDoor.Pure
open Go.RowKit Go.Proofs.YtndeikikeeeigaaDoor.Q Go.Proofs.YtndeikikeeeigaaDoorW.PrintWords Go.Proofs.YtndeikikeeeigaaDoorW.PrintLast Go.Proofs.YtndeikikeeeigaaDoorW.PrintMore
theorem awake_60 : plenumlaw02_awake.f 60 = some true := by decide +kernel
theorem awake_eq (k : Nat) : plenumlaw02_awake.f (k + 60) = some true := by
  induction k with
  | zero => exact awake_60
  | succ k ih =>
    have := plenumlaw02_awake.mono (k + 60)
    rw [show k + 1 + 60 = k + 60 + 1 by omega]
    exact this _ ih
end Go.Proofs.YtndeikikeeeigaaDoor.Pure
end
section
namespace Go.Proofs.YtndeikikeeeigaaDoor.Pure
open Go.RowKit Go.Proofs.YtndeikikeeeigaaDoor.Q Go.Proofs.YtndeikikeeeigaaDoorW.PrintWords Go.Proofs.YtndeikikeeeigaaDoorW.PrintLast Go.Proofs.YtndeikikeeeigaaDoorW.PrintMore
set_option linter.unusedVariables false
theorem codecSkip_out (s : ByteArray) (hz : s.size ≤ 140737488355327) (p : Int) (h : ¬ (0 ≤ p ∧ p ≤ (s.size : Int))) : ∀ k, codec_skip.f (k + 8) s p 16 = some (0, 0, false) := by
  intro k
  have hk : kindS s p = 0 := by unfold kindS; exact if_pos (by omega)
  rw [codec_skip.f, show k + 7 = (k + 4) + 3 from rfl, kind_eq, Option.bind_some, hk, if_neg (by decide), show k + 4 + 3 = (k + 5 + 1) + 1 from rfl, codec_skip.j0, if_neg (by decide), if_neg (by decide), codec_skip.j1, if_neg (by decide), if_neg (by decide), if_neg (by decide)]
theorem CodecSkips : plenumlaw02_CodecSkips.Pure := by
  intro a0 a1 hz _
  by_cases c300 : (a0.size : Int) > 300
  · refine ⟨60, ?_⟩
    unfold plenumlaw02_CodecSkips.f
    rw [show (60 : Nat) = 0 + 60 from rfl, awake_eq, Option.bind_some, if_pos rfl, if_pos c300]
  have hz' : a0.size ≤ 140737488355327 := by omega
  obtain ⟨K0, r0, r0', e0, e0', h0⟩ := skip_eq a0 hz' 16 (by omega) 0 (by omega) (by omega)
  simp only at e0 e0'
  have hdep : ∃ d, ∀ k, codec_Depth.f (k + K0) a0 = some d ∧ plenumref02_Depth.f (k + K0) a0 = some d := by
    rcases h0 with ⟨b1, b2, b3, b4, b5, b6⟩ | ⟨b1, b2⟩
    · by_cases c : r0.1 = (a0.size : Int)
      · refine ⟨r0.2.1, fun k => ⟨?_, ?_⟩⟩
        · unfold codec_Depth.f; rw [show (16 : Int) = ((16 : Nat) : Int) from rfl, e0, Option.bind_some, if_pos b1, if_pos c]
        · unfold plenumref02_Depth.f; rw [show (16 : Int) = ((16 : Nat) : Int) from rfl, e0', Option.bind_some, b2]; exact if_pos c
      · refine ⟨-1, fun k => ⟨?_, ?_⟩⟩
        · unfold codec_Depth.f; rw [show (16 : Int) = ((16 : Nat) : Int) from rfl, e0, Option.bind_some, if_pos b1, if_neg c]
        · unfold plenumref02_Depth.f; rw [show (16 : Int) = ((16 : Nat) : Int) from rfl, e0', Option.bind_some, b2]; exact if_neg c
    · refine ⟨-1, fun k => ⟨?_, ?_⟩⟩
      · unfold codec_Depth.f; rw [show (16 : Int) = ((16 : Nat) : Int) from rfl, e0, Option.bind_some, if_neg (by rw [b1]; decide)]
      · unfold plenumref02_Depth.f; rw [show (16 : Int) = ((16 : Nat) : Int) from rfl, e0', Option.bind_some, b2]; exact if_neg (show ¬ ((-1 : Int) = (a0.size : Int)) by omega)
  obtain ⟨d, hd⟩ := hdep
  have hval : ∀ k, codec_Valid.f (k + K0) a0 = some (decide (d ≥ 0)) := fun k => by unfold codec_Valid.f; rw [(hd k).1, Option.bind_some]
  have hend : ∀ k, plenumlaw02_CodecSkips.j2 (k + K0 + 1) a0 false = some true := fun k => by
    rw [plenumlaw02_CodecSkips.j2, if_neg (by decide), (hd k).2, Option.bind_some, (hd k).1, Option.bind_some, if_pos rfl, hval, Option.bind_some, beq_self_eq_true]
  by_cases cp : 0 ≤ a1 ∧ a1 ≤ (a0.size : Int)
  · obtain ⟨K1, r1, r1', e1, e1', h1⟩ := skip_eq a0 hz' 16 (by omega) a1 cp.1 cp.2
    simp only at e1 e1'
    rw [show ((16 : Nat) : Int) = 16 from rfl] at e1 e1'
    have hs : ∀ k, codec_Skip.f (k + K1) a0 a1 = some (if r1.2.2 = true then (r1.1, true) else (0, false)) := fun k => by
      unfold codec_Skip.f; rw [e1, Option.bind_some]; split <;> rfl
    refine ⟨K0 + K1 + 60, ?_⟩
    unfold plenumlaw02_CodecSkips.f
    rw [awake_eq, Option.bind_some, if_pos rfl, if_neg c300, show K0 + K1 + 60 = (K0 + 60) + K1 by omega, hs, Option.bind_some, if_pos cp.1, decide_eq_true cp.2,
      show K0 + 60 + K1 = (K0 + 59 + K1) + 1 by omega, plenumlaw02_CodecSkips.j0, if_pos rfl, e1', Option.bind_some, show K0 + 59 + K1 = (57 + K1 + K0 + 1) + 1 by omega, plenumlaw02_CodecSkips.j1]
    rcases h1 with ⟨b1, b2, b3, b4, b5, b6⟩ | ⟨b1, b2⟩
    · rw [b2, b1]
      have hx : (decide (r1.1 ≥ 0)) = true := decide_eq_true (by omega)
      have hm : mx r1.1 0 = r1.1 := by unfold mx; rw [if_neg (by omega)]
      show (if (true != decide (r1.1 ≥ 0)) = true then _ else plenumlaw02_CodecSkips.j2 _ a0 (r1.1 != mx r1.1 0)) = _
      rw [hx, if_neg (by decide), hm, show (r1.1 != r1.1) = false by simp]
      exact hend _
    · rw [b2, b1, if_neg (show ¬ (false = true) by decide)]
      have hm : ((0 : Int) != mx (-1) 0) = false := by decide
      have h := hend (57 + K1)
      rw [← hm] at h
      exact (if_neg (show ¬ ((false != decide ((-1 : Int) ≥ 0)) = true) by decide)).trans h
  · refine ⟨K0 + 60, ?_⟩
    unfold plenumlaw02_CodecSkips.f
    have hs : ∀ k, codec_Skip.f (k + 8) a0 a1 = some (0, false) := fun k => by
      unfold codec_Skip.f; rw [codecSkip_out a0 hz' a1 cp, Option.bind_some, if_neg (by decide)]
    rw [awake_eq, Option.bind_some, if_pos rfl, if_neg c300, show K0 + 60 = (K0 + 52) + 8 by omega, hs, Option.bind_some]
    have hj : plenumlaw02_CodecSkips.j0 (K0 + 52 + 8) a0 a1 0 false (-1) false = some true := by
      rw [show K0 + 52 + 8 = (57 + K0 + 1 + 1) + 1 by omega, plenumlaw02_CodecSkips.j0, if_neg (by decide), plenumlaw02_CodecSkips.j1]
      exact hend _
    by_cases c : a1 ≥ 0
    · rw [if_pos c, decide_eq_false (by omega)]; exact hj
    · rw [if_neg c]; exact hj
end Go.Proofs.YtndeikikeeeigaaDoor.Pure
end
section
namespace Go.Proofs.YtndeikikeeeigaaDoor.codecSkips
open Go.ChangeShapes Go.WideShapes Go.ChangeAt Go.RowKit
open Go.ChangeMaps (open_string shut_string)
open Go.Proofs.YtndeikikeeeigaaDoor.Opn Go.Proofs.YtndeikikeeeigaaDoorW.PrintWords Go.Proofs.YtndeikikeeeigaaDoor.Q
set_option linter.unusedVariables false
theorem own : ownKnob Tryd.prog.godebug = none := by kernel_rfl
set_option maxHeartbeats 2000000 in
set_option maxRecDepth 100000 in
theorem lifted (os : Os) (started : os.Started) (H : Type) (enc : TypeId × Value → H) :
    ReturnsInHanded {} Tryd.checked os 5 .any (fun w args => (Rows.codecSkipsSpec.pre enc Tryd.prog Tryd.f5 Rows.codecSkipsRow.domain false w args ∧ laidMet Tryd.prog theLaid w) ∧ sizedMet enc Tryd.prog Tryd.f5 (OpenSpec.ofChange Rows.codecSkipsSpec) false w args) (Rows.codecSkipsSpec.post enc Tryd.prog Tryd.f5 false true false false) := by
  refine returnsInHanded_of_change_and (C := Tryd.checked) (X := fun w _ => laidMet Tryd.prog theLaid w) (fun _ _ _ hh h => h.of_heap hh) own started (by kernel_rfl) Tryd.func5
    (ChangeSpec.witness_at (enc := enc) (C := Tryd.checked) (os := os) (X := fun w _ => laidMet Tryd.prog theLaid w) false (laidWorld os) #[.string ByteArray.empty, .int .i64 0] 8 rfl (by kernel_rfl) (by kernel_rfl) (by kernel_rfl) (by kernel_rfl) (by kernel_rfl) (laidWorld_met os _)) ?_
  intro W base args ds gs before hval0 hW hcnd hsz0 hL0 _
  have hGl := glob_of_laid hL0
  have hsz : (DataW.weightsEach Tryd.prog (Tryd.f5.params.toList ++ Rows.codecSkipsSpec.plain.varTypes Tryd.prog) (ds ++ gs)).all (· ≤ reachBytes) = true := hsz0
  have hval : ∀ (j : Nat) t v, Tryd.f5.params[j]? = some t → args[j]? = some v → Value.okWide Tryd.prog W .any base t v := hval0
  have hW' := hW
  obtain ⟨p, q, hA0, hV, rfl, hfz, hnd⟩ := hW
  have hA : DataW.TrodAll enc Tryd.prog W 0 (fun _ => true) true Tryd.f5.params.toList args.toList ds p := hA0
  rw [Tryd.params5] at hA hval hsz
  obtain ⟨v0, vs0, d0, ds0, p0, q0, hargs, rfl, rfl, h0, r0⟩ := trodAll_cons hA
  obtain ⟨v1, vs1, d1, ds1, p1, q1, rfl, rfl, rfl, h1, r1⟩ := trodAll_cons r0
  obtain ⟨rfl, rfl, rfl⟩ := trodAll_nil r1
  obtain rfl : args = #[v0, v1] := by cases args; simp_all
  obtain ⟨rfl, rfl⟩ := trodVars_none hV
  obtain ⟨a0, rfl, rfl, rfl, y0⟩ := open_string Tryd.underlying9 (hval 0 9 v0 rfl rfl) h0
  have hV0 : a0.size ≤ 140737488351232 := by
    have z := sized_string hsz (j := 0) (t := 9) rfl rfl
    rw [Array.length_toList] at z
    exact z
  obtain ⟨a1, rfl, rfl, rfl, w1⟩ := open_int Tryd.underlying3 (hval 1 3 v1 rfl rfl) h1
  clear hA0 hval0 hsz0 hsz
  obtain ⟨k, h⟩ := Pure.CodecSkips a0 a1 hV0 w1
  refine (Q.plenumlaw02_CodecSkips.calls k a0 a1 true W hGl  h).mono fun e W' ⟨he, bel0⟩ => ?_
  have bel : Below W.heap.size W W' := bel0
  subst he
  exact ⟨_, rfl, _, _, _, [], _, [], hW', trodAll_mk1 (shut_bool Tryd.underlying4 _), (trodAll_cons_mk (shut_string Tryd.underlying9 y0) (trodAll_cons_mk (shut_int Tryd.underlying3 w1) trodAll_mk0)), rfl, bel.frame _, fun h => by cases h⟩
theorem over : Rows.codecSkipsRow.holds Tryd.pinned (OpenSpec.ofChange Rows.codecSkipsSpec) :=
  OpenClaim.holds_of_wide 5 Tryd.f5 rfl rfl rfl rfl rfl rfl rfl ⟨rfl, rfl, rfl, rfl, rfl⟩ rfl rfl rfl rfl rfl (by kernel_rfl) Tryd.func5 (by kernel_rfl)
    (of_decide_eq_true (by kernel_rfl)) (by unfold Func.isWrapper; first | (rw [if_pos (by decide +kernel)]; kernel_rfl) | (rw [if_neg (by decide +kernel)]; exact ⟨rfl, rfl⟩))
    (fun os started H enc _ => lifted os started H enc)
theorem card_holds : Rows.CodecSkipsCardSaid :=
  Claim7.holds_tied_plain_at .later [] [.data] true (true, "df68463a3ead1255f1618a87c8c1347ab87336f1cb44d5b5530c4be1e9654a40") false
    over (fun _ h => by cases h) (by kernel_rfl) (fun _ h => by cases h) codecSkips_row_tie rfl ⟨rfl, rfl⟩ (by kernel_rfl) rfl
    (fun f fn hf hfn => by
      obtain rfl : f = 5 := Option.some.inj ((show Tryd.prog.funcNamed "plenum/plenumlaw02.CodecSkips" = some 5 by kernel_rfl).symm.trans hf) |>.symm
      obtain rfl : fn = Tryd.f5 := (Option.some.inj (Tryd.func5.symm.trans hfn)).symm
      exact ⟨by kernel_rfl, fun j t ht => by
        rw [Tryd.params5] at ht
        have ho : t = 3 ∨ t = 9 := by
          rcases j with _ | _ | j
          all_goals simp at ht
          all_goals subst ht; simp
        obtain rfl | rfl := ho
        · exact (show Tryd.prog.wantsStandIn 3 = false by kernel_rfl)
        · exact (show Tryd.prog.wantsStandIn 9 = false by kernel_rfl)⟩)
    (by kernel_rfl)
#print axioms card_holds
end Go.Proofs.YtndeikikeeeigaaDoor.codecSkips
namespace Go.Proofs.YtndeikikeeeigaaDoor
theorem codecSkips_holds : Rows.CodecSkipsCardSaid := codecSkips.card_holds
end Go.Proofs.YtndeikikeeeigaaDoor
end
