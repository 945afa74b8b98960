/- SegmentPartsCard: one part of the proof that the law answers true for every input, and that its arguments read afterwards as before. No condition. -/
import Derived.Test.YtbgabhknmpbgiaaDoorCParts5
import Derived.Outline
import Derived.Deep.OwnRows
import Derived.LoopTactic
import Derived.Deep.MidRow
import Derived.ProofKit
import Derived.Deep.Slices
import Derived.SizedLaws
import Derived.OpenShut
import Derived.DataReads
import Derived.SevenTiedAt
import Derived.WalkKit
import Derived.ShutString
import Derived.ChangeOld
import Derived.Below
import Derived.Test.YtbgabhknmpbgiaaDoorCards
import Derived.Test.YtbgabhknmpbgiaaDoorRows
import Derived.Test.YtbgabhknmpbgiaaDoorTie
section
namespace Go.Proofs.YtbgabhknmpbgiaaDoor.S
open Go.RowKit Go.Proofs.YtbgabhknmpbgiaaDoorW.PrintWords Go.Proofs.YtbgabhknmpbgiaaDoorW.PrintLast Go.Proofs.YtbgabhknmpbgiaaDoorW.PrintMore
set_option linter.unusedVariables false
set_option linter.unusedSimpArgs false
attribute [local go_sem] max2_int min2_int max_two min_two
def Rn.ack (r : Rn) : S23 := ⟨2, r.id, wrap64 (r.count - 1), false, 0, ⟨#[]⟩⟩
def Rn.take (r : Rn) (p2 : Int) (p3 : Bool) (p5 : ByteArray) : Rn := if p2 = r.count then { r with count := wrap64 (r.count + 1), msg := r.msg ++ bytesOf p5, state := if p3 = true then r.state else 1 } else r
def Rn.late (r : Rn) (now : Int) : Rn := { r with deadline := wrap64 (now + r.timeout) }
def Rn.handle (r : Rn) (p0 p1 p2 : Int) (p3 : Bool) (p5 : ByteArray) (now : Int) : List S23 × Rn :=
 if p1 = r.id then (if p0 = 1 then (if r.state = 1 then ([r.ack], r) else if r.state = 0 then ([((r.take p2 p3 p5).late now).ack], (r.take p2 p3 p5).late now) else ([], r)) else if p0 = 3 then (if r.state = 0 then ([], { r with state := 2 }) else ([], r)) else ([], r)) else ([], r)
set_option maxHeartbeats 16000000 in
set_option maxRecDepth 100000 in
theorem rhandle_calls (B g : Nat) (r : Rn) (p0 p1 p2 : Int) (p3 : Bool) (p4 : Int) (p5 : ByteArray) (now : Int) (w : World) (h : RcvAt B g r w) (hBS : B ≤ w.heap.size) (hlen : r.msg.length + p5.size ≤ 140737488355328) :
  Calls Tryd.prog 34 #[.pointer (some ⟨g, 0, none⟩), .agg #[.int .i64 p0, .int .i64 p1, .int .i64 p2, .bool p3, .int .i64 p4, .string p5], .int .i64 now] w fun e w' => RcvPost B w g (r.handle p0 p1 p2 p3 p5 now) e w' := by
 have hmf_ : ∀ (fn : Fn) (first cap : Array Value) (w : World), (Instr.makeFunc fn first cap).run Tryd.prog w = .ok (.func fn first cap) w := fun _ _ _ _ => rfl
 obtain ⟨id, timeout, state, count, msg, deadline⟩ := r
 have HI := Aside0.mk h
 have HBS := Aside0.mk hBS
 have HLEN := Aside0.mk (show msg.length + p5.size ≤ 140737488355328 from hlen)
 obtain ⟨v0, hG, hge, hO⟩ := h
 have HG := Aside0.mk (show w.heap[g]? = some (.cells #[.int .i64 id, .int .i64 timeout, .int .i64 state, .int .i64 count, v0, .int .i64 deadline] 113 (0, 0)) from hG)
 have HGE := Aside0.mk hge
 clear hG hge hO hBS hlen
 by_cases k1 : p1 = id
 ·have k1b : (p1 != id) = false := by rw [k1]; exact bne_self_eq_false _
  by_cases k2 : p0 = 1
  ·have k2b : (p0 == 1) = true := by rw [k2]; rfl
   have k2c : (p0 == 3) = false := by rw [k2]; rfl
   by_cases k3 : state = 1
   ·have k3b : (state == 1) = true := by rw [k3]; rfl
    have HT := Aside0.mk (show Rn.handle ⟨id, timeout, state, count, msg, deadline⟩ p0 p1 p2 p3 p5 now = ([Rn.ack ⟨id, timeout, state, count, msg, deadline⟩], ⟨id, timeout, state, count, msg, deadline⟩) by unfold Rn.handle; rw [if_pos k1, if_pos k2, if_pos k3]; try rfl)
    rw [HT.out]
    clear k1 k2 k3
    go_enter Tryd.func34, Tryd.ntmps34
    go_wp2_with (first | ((with_reducible refine gate_dst (N := 3) rfl ?_); refine box_event ?hg (N := 3) ?hd (cs := #[.pointer (some ⟨g, 0, none⟩)]) (t := 64) ?hr ?_; (case hd => rfl); (case hg => rfl); (case hr => first | (go_simp; done) | (go_simp; rfl)); intro gr hgr w1 hbox hb; have BRa := Aside0.mk hbox; have HIa := Aside0.mk (HI.out.below hb); have HGa := Aside0.mk (blk_below HG.out hb); have HBa := Aside0.mk (hb.mono HBS.out); have HKa := Aside0.mk (KeepR.of_below hb g); clear hb hbox hgr) | ((with_reducible refine gate_dst (N := 4) rfl ?_); refine box_event ?hg (N := 4) ?hd (cs := #[.int .i64 p0, .int .i64 p1, .int .i64 p2, .bool p3, .int .i64 p4, .string p5]) (t := 23) ?hr ?_; (case hd => rfl); (case hg => rfl); (case hr => first | (go_simp; done) | (go_simp; rfl)); intro gp hgp w2 hbox hb; have BP2 := Aside0.mk hbox; have BR2 := Aside0.mk (blk_below BRa.out hb); have HI2 := Aside0.mk (HIa.out.below hb); have HG2 := Aside0.mk (blk_below HGa.out hb); have HB2 := Aside0.mk (HBa.out.trans (hb.mono (Nat.le_trans HBS.out HKa.out.size))); have HK2 := Aside0.mk (HKa.out.trans (KeepR.of_below hb g)); have HNR := Aside0.mk (blk_ne BR2.out HG2.out (by decide)); have HNP := Aside0.mk (blk_ne BP2.out HG2.out (by decide)); have cr := (blk_cell BR2.out 0).trans rfl; have c0 := (blk_cell HG2.out 0).trans rfl; have y1 := (blk_cell BP2.out 1).trans rfl; clear hb hbox hgp BRa HIa HGa HBa HKa))
    have HI3 := Aside0.mk HI2.out.drew
    have HG3 := Aside0.mk (blk_drew HG2.out)
    have BR3 := Aside0.mk (blk_drew BR2.out)
    have BP3 := Aside0.mk (blk_drew BP2.out)
    have HB3 := Aside0.mk HB2.out.drew
    have HK3 := Aside0.mk HK2.out.drew
    refine start_ (n := 7) (S := fun w' => w'.cell? ⟨gp, 1, none⟩ = some (.int .i64 p1) ∧ w'.cell? ⟨gr, 0, none⟩ = some (.pointer (some ⟨g, 0, none⟩)) ∧ w'.cell? ⟨g, 0, none⟩ = some (.int .i64 id)) (ds := []) #[Yn, Yn, Yn, Yn, Yn, Yn, Yn] (by kernel_rfl) rfl rfl ⟨y1, cr, c0⟩ (fun hHeld => ?_)
    generalize w2.drew = w3 at HI3 HG3 BR3 BP3 HB3 HK3 hHeld ⊢
    refine pure_ (i := 0) (N := some 8) (v := ?_) (a' := ?_) #[Y, Yn, Yn, Yn, Yn, Yn, Yn] rfl rfl (by kernel_rfl) (fun _ _ _ h => h) (Or.inl ⟨by rfl, ?_⟩) ?_ ?_
    rotate_left
    ·intro w'
     go_simp
     with_reducible rfl
    rotate_left
    ·simp only [Act.put, List.setIfInBounds_toArray, List.set_cons_zero, List.set_cons_succ, i64_w, i32_w]
     rfl
    refine take_ (i := 1) (N := some 9) (v := ?_) (a' := ?_) #[Y, Y, Yn, Yn, Yn, Yn, Yn] rfl rfl (by kernel_rfl) (fun _ _ _ h => h) (Or.inl ⟨by rfl, ?_⟩) hHeld ?_ ?_
    rotate_left
    ·rintro w' ⟨s0, s1, s2⟩
     go_simp
     with_reducible rfl
    rotate_left
    ·simp only [Act.put, List.setIfInBounds_toArray, List.set_cons_zero, List.set_cons_succ, i64_w, i32_w]
     rfl
    refine take_ (i := 2) (N := some 10) (v := ?_) (a' := ?_) #[Y, Y, Y, Yn, Yn, Yn, Yn] rfl rfl (by kernel_rfl) (fun _ _ _ h => h) (Or.inl ⟨by rfl, ?_⟩) hHeld ?_ ?_
    rotate_left
    ·rintro w' ⟨s0, s1, s2⟩
     go_simp
     with_reducible rfl
    rotate_left
    ·simp only [Act.put, List.setIfInBounds_toArray, List.set_cons_zero, List.set_cons_succ, i64_w, i32_w]
     rfl
    refine pure_ (i := 3) (N := some 11) (v := ?_) (a' := ?_) #[Y, Y, Y, Y, Yn, Yn, Yn] rfl rfl (by kernel_rfl) (fun _ _ _ h => h) (Or.inl ⟨by rfl, ?_⟩) ?_ ?_
    rotate_left
    ·intro w'
     go_simp
     with_reducible rfl
    rotate_left
    ·simp only [Act.put, List.setIfInBounds_toArray, List.set_cons_zero, List.set_cons_succ, i64_w, i32_w]
     rfl
    refine pure_ (i := 4) (N := some 12) (v := ?_) (a' := ?_) #[Y, Y, Y, Y, Y, Yn, Yn] rfl rfl (by kernel_rfl) (fun _ _ _ h => h) (Or.inl ⟨by rfl, ?_⟩) ?_ ?_
    rotate_left
    ·intro w'
     go_simp
     with_reducible rfl
    rotate_left
    ·simp only [Act.put, List.setIfInBounds_toArray, List.set_cons_zero, List.set_cons_succ, i64_w, i32_w]
     rfl
    refine take_ (i := 5) (N := some 13) (v := ?_) (a' := ?_) #[Y, Y, Y, Y, Y, Y, Yn] rfl rfl (by kernel_rfl) (fun _ _ _ h => h) (Or.inl ⟨by rfl, ?_⟩) hHeld ?_ ?_
    rotate_left
    ·rintro w' ⟨s0, s1, s2⟩
     go_simp
     with_reducible rfl
    rotate_left
    ·simp only [Act.put, List.setIfInBounds_toArray, List.set_cons_zero, List.set_cons_succ, i64_w, i32_w]
     rfl
    refine pure_ (i := 6) (N := some 14) (v := ?_) (a' := ?_) #[Y, Y, Y, Y, Y, Y, Y] rfl rfl (by kernel_rfl) (fun _ _ _ h => h) (Or.inl ⟨by rfl, ?_⟩) ?_ ?_
    rotate_left
    ·intro w'
     go_simp
     with_reducible rfl
    rotate_left
    ·simp only [Act.put, List.setIfInBounds_toArray, List.set_cons_zero, List.set_cons_succ, i64_w, i32_w]
     rfl
    refine done_ (by kernel_rfl) ?_
    clear cr c0 y1 hHeld
    have cr := (blk_cell BR3.out 0).trans rfl
    have y0 := (blk_cell BP3.out 0).trans rfl
    have c2 := (blk_cell HG3.out 2).trans rfl
    have c0 := (blk_cell HG3.out 0).trans rfl
    have c3 := (blk_cell HG3.out 3).trans rfl
    go_wp2
    have HI4 := Aside0.mk HI3.out.drew
    have HG4 := Aside0.mk (blk_drew HG3.out)
    have BR4 := Aside0.mk (blk_drew BR3.out)
    have BP4 := Aside0.mk (blk_drew BP3.out)
    have HB4 := Aside0.mk HB3.out.drew
    have HK4 := Aside0.mk HK3.out.drew
    refine start_ (n := 12) (S := fun w' => w'.cell? ⟨gr, 0, none⟩ = some (.pointer (some ⟨g, 0, none⟩)) ∧ w'.cell? ⟨g, 0, none⟩ = some (.int .i64 id) ∧ w'.cell? ⟨g, 3, none⟩ = some (.int .i64 count)) (ds := []) #[Yn, Yn, Yn, Yn, Yn, Yn, Yn, Yn, Yn, Yn, Yn, Yn] (by kernel_rfl) rfl rfl ⟨cr, c0, c3⟩ (fun hHeld => ?_)
    generalize w3.drew = w4 at HI4 HG4 BR4 BP4 HB4 HK4 hHeld ⊢
    refine take_ (i := 0) (N := some 2) (v := ?_) (a' := ?_) #[Y, Yn, Yn, Yn, Yn, Yn, Yn, Yn, Yn, Yn, Yn, Yn] rfl rfl (by kernel_rfl) (fun _ _ _ h => h) (Or.inl ⟨by rfl, ?_⟩) hHeld ?_ ?_
    rotate_left
    ·rintro w' ⟨s0, s1, s2⟩
     go_simp
     with_reducible rfl
    rotate_left
    ·simp only [Act.put, List.setIfInBounds_toArray, List.set_cons_zero, List.set_cons_succ, i64_w, i32_w]
     rfl
    refine pure_ (i := 1) (N := some 3) (v := ?_) (a' := ?_) #[Y, Y, Yn, Yn, Yn, Yn, Yn, Yn, Yn, Yn, Yn, Yn] rfl rfl (by kernel_rfl) (fun _ _ _ h => h) (Or.inl ⟨by rfl, ?_⟩) ?_ ?_
    rotate_left
    ·intro w'
     go_simp
     with_reducible rfl
    rotate_left
    ·simp only [Act.put, List.setIfInBounds_toArray, List.set_cons_zero, List.set_cons_succ, i64_w, i32_w]
     rfl
    refine pure_ (i := 2) (N := some 4) (v := ?_) (a' := ?_) #[Y, Y, Y, Yn, Yn, Yn, Yn, Yn, Yn, Yn, Yn, Yn] rfl rfl (by kernel_rfl) (fun _ _ _ h => h) (Or.inl ⟨by rfl, ?_⟩) ?_ ?_
    rotate_left
    ·intro w'
     go_simp
     with_reducible rfl
    rotate_left
    ·simp only [Act.put, List.setIfInBounds_toArray, List.set_cons_zero, List.set_cons_succ, i64_w, i32_w]
     rfl
    refine take_ (i := 3) (N := some 5) (v := ?_) (a' := ?_) #[Y, Y, Y, Y, Yn, Yn, Yn, Yn, Yn, Yn, Yn, Yn] rfl rfl (by kernel_rfl) (fun _ _ _ h => h) (Or.inl ⟨by rfl, ?_⟩) hHeld ?_ ?_
    rotate_left
    ·rintro w' ⟨s0, s1, s2⟩
     go_simp
     with_reducible rfl
    rotate_left
    ·simp only [Act.put, List.setIfInBounds_toArray, List.set_cons_zero, List.set_cons_succ, i64_w, i32_w]
     rfl
    refine take_ (i := 4) (N := some 6) (v := ?_) (a' := ?_) #[Y, Y, Y, Y, Y, Yn, Yn, Yn, Yn, Yn, Yn, Yn] rfl rfl (by kernel_rfl) (fun _ _ _ h => h) (Or.inl ⟨by rfl, ?_⟩) hHeld ?_ ?_
    rotate_left
    ·rintro w' ⟨s0, s1, s2⟩
     go_simp
     with_reducible rfl
    rotate_left
    ·simp only [Act.put, List.setIfInBounds_toArray, List.set_cons_zero, List.set_cons_succ, i64_w, i32_w]
     rfl
    refine pure_ (i := 5) (N := some 7) (v := ?_) (a' := ?_) #[Y, Y, Y, Y, Y, Y, Yn, Yn, Yn, Yn, Yn, Yn] rfl rfl (by kernel_rfl) (fun _ _ _ h => h) (Or.inl ⟨by rfl, ?_⟩) ?_ ?_
    rotate_left
    ·intro w'
     go_simp
     with_reducible rfl
    rotate_left
    ·simp only [Act.put, List.setIfInBounds_toArray, List.set_cons_zero, List.set_cons_succ, i64_w, i32_w]
     rfl
    refine pure_ (i := 6) (N := some 8) (v := ?_) (a' := ?_) #[Y, Y, Y, Y, Y, Y, Y, Yn, Yn, Yn, Yn, Yn] rfl rfl (by kernel_rfl) (fun _ _ _ h => h) (Or.inl ⟨by rfl, ?_⟩) ?_ ?_
    rotate_left
    ·intro w'
     go_simp
     with_reducible rfl
    rotate_left
    ·simp only [Act.put, List.setIfInBounds_toArray, List.set_cons_zero, List.set_cons_succ, i64_w, i32_w]
     rfl
    refine take_ (i := 7) (N := some 9) (v := ?_) (a' := ?_) #[Y, Y, Y, Y, Y, Y, Y, Y, Yn, Yn, Yn, Yn] rfl rfl (by kernel_rfl) (fun _ _ _ h => h) (Or.inl ⟨by rfl, ?_⟩) hHeld ?_ ?_
    rotate_left
    ·rintro w' ⟨s0, s1, s2⟩
     go_simp
     with_reducible rfl
    rotate_left
    ·simp only [Act.put, List.setIfInBounds_toArray, List.set_cons_zero, List.set_cons_succ, i64_w, i32_w]
     rfl
    refine pure_ (i := 8) (N := some 10) (v := ?_) (a' := ?_) #[Y, Y, Y, Y, Y, Y, Y, Y, Y, Yn, Yn, Yn] rfl rfl (by kernel_rfl) (fun _ _ _ h => h) (Or.inl ⟨by rfl, ?_⟩) ?_ ?_
    rotate_left
    ·intro w'
     go_simp
     with_reducible rfl
    rotate_left
    ·simp only [Act.put, List.setIfInBounds_toArray, List.set_cons_zero, List.set_cons_succ, i64_w, i32_w]
     rfl
    refine pure_ (i := 9) (N := some 11) (v := ?_) (a' := ?_) #[Y, Y, Y, Y, Y, Y, Y, Y, Y, Y, Yn, Yn] rfl rfl (by kernel_rfl) (fun _ _ _ h => h) (Or.inl ⟨by rfl, ?_⟩) ?_ ?_
    rotate_left
    ·intro w'
     go_simp
     with_reducible rfl
    rotate_left
    ·simp only [Act.put, List.setIfInBounds_toArray, List.set_cons_zero, List.set_cons_succ, i64_w, i32_w]
     rfl
    refine one_ (i := 10) (N := some 12) #[Y, Y, Y, Y, Y, Y, Y, Y, Y, Y, Y, Yn] rfl rfl (by kernel_rfl) (by decide) (fun K hK => ?_)
    refine value_ (w1 := ?_) (v := ?_) (by rfl) rfl ?_ ?_
    rotate_left 2
    ·go_simp
     constructor
     ·rfl
     ·rfl
    refine hK.out _ _ ⟨(blk_cell (by (with_reducible repeat (first | refine blk_drewN ?_ _ | refine blk_drew ?_ | refine blk_alloc ?_ _)); exact BR4.out) 0).trans rfl, (blk_cell (by (with_reducible repeat (first | refine blk_drewN ?_ _ | refine blk_drew ?_ | refine blk_alloc ?_ _)); exact HG4.out) 0).trans rfl, (blk_cell (by (with_reducible repeat (first | refine blk_drewN ?_ _ | refine blk_drew ?_ | refine blk_alloc ?_ _)); exact HG4.out) 3).trans rfl⟩ (fun hHeld => ?_)
    clear hK K
    refine norm_ (a' := ?_) ?_ ?_
    rotate_left
    ·show Act.put _ (some 12) _ = _
     simp only [Act.put, List.setIfInBounds_toArray, List.set_cons_zero, List.set_cons_succ, i64_w, i32_w]
     rfl
    refine pure_ (i := 11) (N := some 1) (v := ?_) (a' := ?_) #[Y, Y, Y, Y, Y, Y, Y, Y, Y, Y, Y, Y] rfl rfl (by kernel_rfl) (fun _ _ _ h => h) (Or.inl ⟨by rfl, ?_⟩) ?_ ?_
    rotate_left
    ·intro w'
     go_simp
     with_reducible rfl
    rotate_left
    ·simp only [Act.put, List.setIfInBounds_toArray, List.set_cons_zero, List.set_cons_succ, i64_w, i32_w]
     rfl
    refine done_ (by kernel_rfl) ?_
    go_wp2
    go_ret
    exact ⟨_, rfl, V_one23 (Rn.ack ⟨id, timeout, state, count, msg, deadline⟩) _ rfl HK4.out.size, (by first | exact HI4.out.alloc _ | (rw [HMS.out]; exact HI4.out.alloc _)), HB4.out.alloc (Nat.le_trans HBS.out HK4.out.size) _, HK4.out.alloc _⟩
   ·have k3b : (state == 1) = false := beq_false_of_ne k3
    by_cases k4 : state = 0
    ·have k4b : (state == 0) = true := by rw [k4]; rfl
     by_cases k5 : p2 = count
     ·have k5b : (p2 == count) = true := by rw [k5]; exact beq_self_eq_true _
      rcases Bool.eq_false_or_eq_true p3 with k6 | k6
      ·have K6 := Aside0.mk k6
       have HT := Aside0.mk (show Rn.handle ⟨id, timeout, state, count, msg, deadline⟩ p0 p1 p2 p3 p5 now = ([Rn.ack ⟨id, timeout, state, wrap64 (count + 1), msg ++ bytesOf p5, wrap64 (now + timeout)⟩], ⟨id, timeout, state, wrap64 (count + 1), msg ++ bytesOf p5, wrap64 (now + timeout)⟩) by unfold Rn.handle; rw [if_pos k1, if_pos k2, if_neg k3, if_pos k4, show Rn.take ⟨id, timeout, state, count, msg, deadline⟩ p2 p3 p5 = ⟨id, timeout, state, wrap64 (count + 1), msg ++ bytesOf p5, deadline⟩ from by unfold Rn.take; rw [if_pos k5, k6]; rfl]; try rfl)
       rw [HT.out]
       clear k1 k2 k3 k4 k5
       go_enter Tryd.func34, Tryd.ntmps34
       go_wp2_with (first | ((with_reducible refine gate_dst (N := 3) rfl ?_); refine box_event ?hg (N := 3) ?hd (cs := #[.pointer (some ⟨g, 0, none⟩)]) (t := 64) ?hr ?_; (case hd => rfl); (case hg => rfl); (case hr => first | (go_simp; done) | (go_simp; rfl)); intro gr hgr w1 hbox hb; have BRa := Aside0.mk hbox; have HIa := Aside0.mk (HI.out.below hb); have HGa := Aside0.mk (blk_below HG.out hb); have HBa := Aside0.mk (hb.mono HBS.out); have HKa := Aside0.mk (KeepR.of_below hb g); clear hb hbox hgr) | ((with_reducible refine gate_dst (N := 4) rfl ?_); refine box_event ?hg (N := 4) ?hd (cs := #[.int .i64 p0, .int .i64 p1, .int .i64 p2, .bool p3, .int .i64 p4, .string p5]) (t := 23) ?hr ?_; (case hd => rfl); (case hg => rfl); (case hr => first | (go_simp; done) | (go_simp; rfl)); intro gp hgp w2 hbox hb; have BP2 := Aside0.mk hbox; have BR2 := Aside0.mk (blk_below BRa.out hb); have HI2 := Aside0.mk (HIa.out.below hb); have HG2 := Aside0.mk (blk_below HGa.out hb); have HB2 := Aside0.mk (HBa.out.trans (hb.mono (Nat.le_trans HBS.out HKa.out.size))); have HK2 := Aside0.mk (HKa.out.trans (KeepR.of_below hb g)); have HNR := Aside0.mk (blk_ne BR2.out HG2.out (by decide)); have HNP := Aside0.mk (blk_ne BP2.out HG2.out (by decide)); have cr := (blk_cell BR2.out 0).trans rfl; have c0 := (blk_cell HG2.out 0).trans rfl; have y1 := (blk_cell BP2.out 1).trans rfl; clear hb hbox hgp BRa HIa HGa HBa HKa))
       have HI3 := Aside0.mk HI2.out.drew
       have HG3 := Aside0.mk (blk_drew HG2.out)
       have BR3 := Aside0.mk (blk_drew BR2.out)
       have BP3 := Aside0.mk (blk_drew BP2.out)
       have HB3 := Aside0.mk HB2.out.drew
       have HK3 := Aside0.mk HK2.out.drew
       refine start_ (n := 7) (S := fun w' => w'.cell? ⟨gp, 1, none⟩ = some (.int .i64 p1) ∧ w'.cell? ⟨gr, 0, none⟩ = some (.pointer (some ⟨g, 0, none⟩)) ∧ w'.cell? ⟨g, 0, none⟩ = some (.int .i64 id)) (ds := []) #[Yn, Yn, Yn, Yn, Yn, Yn, Yn] (by kernel_rfl) rfl rfl ⟨y1, cr, c0⟩ (fun hHeld => ?_)
       generalize w2.drew = w3 at HI3 HG3 BR3 BP3 HB3 HK3 hHeld ⊢
       refine pure_ (i := 0) (N := some 8) (v := ?_) (a' := ?_) #[Y, Yn, Yn, Yn, Yn, Yn, Yn] rfl rfl (by kernel_rfl) (fun _ _ _ h => h) (Or.inl ⟨by rfl, ?_⟩) ?_ ?_
       rotate_left
       ·intro w'
        go_simp
        with_reducible rfl
       rotate_left
       ·simp only [Act.put, List.setIfInBounds_toArray, List.set_cons_zero, List.set_cons_succ, i64_w, i32_w]
        rfl
       refine take_ (i := 1) (N := some 9) (v := ?_) (a' := ?_) #[Y, Y, Yn, Yn, Yn, Yn, Yn] rfl rfl (by kernel_rfl) (fun _ _ _ h => h) (Or.inl ⟨by rfl, ?_⟩) hHeld ?_ ?_
       rotate_left
       ·rintro w' ⟨s0, s1, s2⟩
        go_simp
        with_reducible rfl
       rotate_left
       ·simp only [Act.put, List.setIfInBounds_toArray, List.set_cons_zero, List.set_cons_succ, i64_w, i32_w]
        rfl
       refine take_ (i := 2) (N := some 10) (v := ?_) (a' := ?_) #[Y, Y, Y, Yn, Yn, Yn, Yn] rfl rfl (by kernel_rfl) (fun _ _ _ h => h) (Or.inl ⟨by rfl, ?_⟩) hHeld ?_ ?_
       rotate_left
       ·rintro w' ⟨s0, s1, s2⟩
        go_simp
        with_reducible rfl
       rotate_left
       ·simp only [Act.put, List.setIfInBounds_toArray, List.set_cons_zero, List.set_cons_succ, i64_w, i32_w]
        rfl
       refine pure_ (i := 3) (N := some 11) (v := ?_) (a' := ?_) #[Y, Y, Y, Y, Yn, Yn, Yn] rfl rfl (by kernel_rfl) (fun _ _ _ h => h) (Or.inl ⟨by rfl, ?_⟩) ?_ ?_
       rotate_left
       ·intro w'
        go_simp
        with_reducible rfl
       rotate_left
       ·simp only [Act.put, List.setIfInBounds_toArray, List.set_cons_zero, List.set_cons_succ, i64_w, i32_w]
        rfl
       refine pure_ (i := 4) (N := some 12) (v := ?_) (a' := ?_) #[Y, Y, Y, Y, Y, Yn, Yn] rfl rfl (by kernel_rfl) (fun _ _ _ h => h) (Or.inl ⟨by rfl, ?_⟩) ?_ ?_
       rotate_left
       ·intro w'
        go_simp
        with_reducible rfl
       rotate_left
       ·simp only [Act.put, List.setIfInBounds_toArray, List.set_cons_zero, List.set_cons_succ, i64_w, i32_w]
        rfl
       refine take_ (i := 5) (N := some 13) (v := ?_) (a' := ?_) #[Y, Y, Y, Y, Y, Y, Yn] rfl rfl (by kernel_rfl) (fun _ _ _ h => h) (Or.inl ⟨by rfl, ?_⟩) hHeld ?_ ?_
       rotate_left
       ·rintro w' ⟨s0, s1, s2⟩
        go_simp
        with_reducible rfl
       rotate_left
       ·simp only [Act.put, List.setIfInBounds_toArray, List.set_cons_zero, List.set_cons_succ, i64_w, i32_w]
        rfl
       refine pure_ (i := 6) (N := some 14) (v := ?_) (a' := ?_) #[Y, Y, Y, Y, Y, Y, Y] rfl rfl (by kernel_rfl) (fun _ _ _ h => h) (Or.inl ⟨by rfl, ?_⟩) ?_ ?_
       rotate_left
       ·intro w'
        go_simp
        with_reducible rfl
       rotate_left
       ·simp only [Act.put, List.setIfInBounds_toArray, List.set_cons_zero, List.set_cons_succ, i64_w, i32_w]
        rfl
       refine done_ (by kernel_rfl) ?_
       clear cr c0 y1 hHeld
       have cr := (blk_cell BR3.out 0).trans rfl
       have y0 := (blk_cell BP3.out 0).trans rfl
       have c2 := (blk_cell HG3.out 2).trans rfl
       have y2 := (blk_cell BP3.out 2).trans rfl
       have c3 := (blk_cell HG3.out 3).trans rfl
       go_wp2
       have HI4 := Aside0.mk HI3.out.drew
       have HG4 := Aside0.mk (blk_drew HG3.out)
       have BR4 := Aside0.mk (blk_drew BR3.out)
       have BP4 := Aside0.mk (blk_drew BP3.out)
       have HB4 := Aside0.mk HB3.out.drew
       have HK4 := Aside0.mk HK3.out.drew
       refine start_ (n := 7) (S := fun w' => w'.cell? ⟨gp, 2, none⟩ = some (.int .i64 p2) ∧ w'.cell? ⟨gr, 0, none⟩ = some (.pointer (some ⟨g, 0, none⟩)) ∧ w'.cell? ⟨g, 3, none⟩ = some (.int .i64 count)) (ds := []) #[Yn, Yn, Yn, Yn, Yn, Yn, Yn] (by kernel_rfl) rfl rfl ⟨y2, cr, c3⟩ (fun hHeld => ?_)
       generalize w3.drew = w4 at HI4 HG4 BR4 BP4 HB4 HK4 hHeld ⊢
       refine pure_ (i := 0) (N := some 40) (v := ?_) (a' := ?_) #[Y, Yn, Yn, Yn, Yn, Yn, Yn] rfl rfl (by kernel_rfl) (fun _ _ _ h => h) (Or.inl ⟨by rfl, ?_⟩) ?_ ?_
       rotate_left
       ·intro w'
        go_simp
        with_reducible rfl
       rotate_left
       ·simp only [Act.put, List.setIfInBounds_toArray, List.set_cons_zero, List.set_cons_succ, i64_w, i32_w]
        rfl
       refine take_ (i := 1) (N := some 41) (v := ?_) (a' := ?_) #[Y, Y, Yn, Yn, Yn, Yn, Yn] rfl rfl (by kernel_rfl) (fun _ _ _ h => h) (Or.inl ⟨by rfl, ?_⟩) hHeld ?_ ?_
       rotate_left
       ·rintro w' ⟨s0, s1, s2⟩
        go_simp
        with_reducible rfl
       rotate_left
       ·simp only [Act.put, List.setIfInBounds_toArray, List.set_cons_zero, List.set_cons_succ, i64_w, i32_w]
        rfl
       refine take_ (i := 2) (N := some 42) (v := ?_) (a' := ?_) #[Y, Y, Y, Yn, Yn, Yn, Yn] rfl rfl (by kernel_rfl) (fun _ _ _ h => h) (Or.inl ⟨by rfl, ?_⟩) hHeld ?_ ?_
       rotate_left
       ·rintro w' ⟨s0, s1, s2⟩
        go_simp
        with_reducible rfl
       rotate_left
       ·simp only [Act.put, List.setIfInBounds_toArray, List.set_cons_zero, List.set_cons_succ, i64_w, i32_w]
        rfl
       refine pure_ (i := 3) (N := some 43) (v := ?_) (a' := ?_) #[Y, Y, Y, Y, Yn, Yn, Yn] rfl rfl (by kernel_rfl) (fun _ _ _ h => h) (Or.inl ⟨by rfl, ?_⟩) ?_ ?_
       rotate_left
       ·intro w'
        go_simp
        with_reducible rfl
       rotate_left
       ·simp only [Act.put, List.setIfInBounds_toArray, List.set_cons_zero, List.set_cons_succ, i64_w, i32_w]
        rfl
       refine pure_ (i := 4) (N := some 44) (v := ?_) (a' := ?_) #[Y, Y, Y, Y, Y, Yn, Yn] rfl rfl (by kernel_rfl) (fun _ _ _ h => h) (Or.inl ⟨by rfl, ?_⟩) ?_ ?_
       rotate_left
       ·intro w'
        go_simp
        with_reducible rfl
       rotate_left
       ·simp only [Act.put, List.setIfInBounds_toArray, List.set_cons_zero, List.set_cons_succ, i64_w, i32_w]
        rfl
       refine take_ (i := 5) (N := some 45) (v := ?_) (a' := ?_) #[Y, Y, Y, Y, Y, Y, Yn] rfl rfl (by kernel_rfl) (fun _ _ _ h => h) (Or.inl ⟨by rfl, ?_⟩) hHeld ?_ ?_
       rotate_left
       ·rintro w' ⟨s0, s1, s2⟩
        go_simp
        with_reducible rfl
       rotate_left
       ·simp only [Act.put, List.setIfInBounds_toArray, List.set_cons_zero, List.set_cons_succ, i64_w, i32_w]
        rfl
       refine pure_ (i := 6) (N := some 46) (v := ?_) (a' := ?_) #[Y, Y, Y, Y, Y, Y, Y] rfl rfl (by kernel_rfl) (fun _ _ _ h => h) (Or.inl ⟨by rfl, ?_⟩) ?_ ?_
       rotate_left
       ·intro w'
        go_simp
        with_reducible rfl
       rotate_left
       ·simp only [Act.put, List.setIfInBounds_toArray, List.set_cons_zero, List.set_cons_succ, i64_w, i32_w]
        rfl
       refine done_ (by kernel_rfl) ?_
       clear cr y0 c2 y2 c3 hHeld
       have cr := (blk_cell BR4.out 0).trans rfl
       have c3 := (blk_cell HG4.out 3).trans rfl
       have f3 := blk_frozen HG4.out 3
       have HI5 := Aside0.mk (HI4.out.set_count (wrap64 (count + 1)))
       have HG5 := Aside0.mk (blk_put HG4.out 3 (.int .i64 (wrap64 (count + 1))) rfl)
       have BR5 := Aside0.mk (blk_far BR4.out (p := ⟨g, 3, none⟩) HNR.out (.int .i64 (wrap64 (count + 1))))
       have BP5 := Aside0.mk (blk_far BP4.out (p := ⟨g, 3, none⟩) HNP.out (.int .i64 (wrap64 (count + 1))))
       have HB5 := Aside0.mk (HB4.out.setCell (p := ⟨g, 3, none⟩) HGE.out (.int .i64 (wrap64 (count + 1))))
       have HK5 := Aside0.mk (HK4.out.set 3 (.int .i64 (wrap64 (count + 1))))
       go_wp2
       generalize w4.setCell ⟨g, 3, none⟩ (.int .i64 (wrap64 (count + 1))) = w5 at HI5 HG5 BR5 BP5 HB5 HK5 ⊢
       clear cr c3 f3
       have cr := (blk_cell BR5.out 0).trans rfl
       have y5 := (blk_cell BP5.out 5).trans rfl
       obtain ⟨v5, hG5, hge5, hO5⟩ := HI5.out
       have hO5' : Kd.R (Kd.int .u8) 5 w5 B (fun _ => True) v5 msg := hO5
       obtain ⟨A5, k5', e5⟩ := Kd.R_slice hO5'
       subst e5
       have HG5' := Aside0.mk hG5
       have HO5 := Aside0.mk hO5'
       clear hG5 hge5 hO5 hO5'
       clear HG5
       have HG5 := HG5'
       clear HG5'
       have c4 := (blk_cell HG5.out 4).trans rfl
       have HO6 := Aside0.mk (Kd.R_drew HO5.out)
       have HI6 := Aside0.mk HI5.out.drew
       have HG6 := Aside0.mk (blk_drew HG5.out)
       have BR6 := Aside0.mk (blk_drew BR5.out)
       have BP6 := Aside0.mk (blk_drew BP5.out)
       have HB6 := Aside0.mk HB5.out.drew
       have HK6 := Aside0.mk HK5.out.drew
       refine start_ (n := 11) (S := fun w' => w'.cell? ⟨gr, 0, none⟩ = some (.pointer (some ⟨g, 0, none⟩)) ∧ w'.cell? ⟨g, 4, none⟩ = some (.slice A5 msg.length k5') ∧ w'.cell? ⟨gp, 5, none⟩ = some (.string p5)) (ds := [10]) #[Yn, Yn, Yn, Yn, Yn, Yn, Yn, Yn, Yn, Yn, Yn] (by kernel_rfl) rfl rfl ⟨cr, c4, y5⟩ (fun hHeld => ?_)
       generalize w5.drew = w6 at HI6 HG6 BR6 BP6 HB6 HK6 HO6 hHeld ⊢
       refine pure_ (i := 5) (N := some 59) (v := ?_) (a' := ?_) #[Yn, Yn, Yn, Yn, Yn, Y, Yn, Yn, Yn, Yn, Yn] rfl rfl (by kernel_rfl) (fun _ _ _ h => h) (Or.inl ⟨by rfl, ?_⟩) ?_ ?_
       rotate_left
       ·intro w'
        go_simp
        with_reducible rfl
       rotate_left
       ·simp only [Act.put, List.setIfInBounds_toArray, List.set_cons_zero, List.set_cons_succ, i64_w, i32_w]
        rfl
       refine take_ (i := 0) (N := some 54) (v := ?_) (a' := ?_) #[Y, Yn, Yn, Yn, Yn, Y, Yn, Yn, Yn, Yn, Yn] rfl rfl (by kernel_rfl) (fun _ _ _ h => h) (Or.inl ⟨by rfl, ?_⟩) hHeld ?_ ?_
       rotate_left
       ·rintro w' ⟨s0, s1, s2⟩
        go_simp
        with_reducible rfl
       rotate_left
       ·simp only [Act.put, List.setIfInBounds_toArray, List.set_cons_zero, List.set_cons_succ, i64_w, i32_w]
        rfl
       refine take_ (i := 1) (N := some 55) (v := ?_) (a' := ?_) #[Y, Y, Yn, Yn, Yn, Y, Yn, Yn, Yn, Yn, Yn] rfl rfl (by kernel_rfl) (fun _ _ _ h => h) (Or.inl ⟨by rfl, ?_⟩) hHeld ?_ ?_
       rotate_left
       ·rintro w' ⟨s0, s1, s2⟩
        go_simp
        with_reducible rfl
       rotate_left
       ·simp only [Act.put, List.setIfInBounds_toArray, List.set_cons_zero, List.set_cons_succ, i64_w, i32_w]
        rfl
       refine pure_ (i := 2) (N := some 56) (v := ?_) (a' := ?_) #[Y, Y, Y, Yn, Yn, Y, Yn, Yn, Yn, Yn, Yn] rfl rfl (by kernel_rfl) (fun _ _ _ h => h) (Or.inl ⟨by rfl, ?_⟩) ?_ ?_
       rotate_left
       ·intro w'
        go_simp
        with_reducible rfl
       rotate_left
       ·simp only [Act.put, List.setIfInBounds_toArray, List.set_cons_zero, List.set_cons_succ, i64_w, i32_w]
        rfl
       refine pure_ (i := 3) (N := some 57) (v := ?_) (a' := ?_) #[Y, Y, Y, Y, Yn, Y, Yn, Yn, Yn, Yn, Yn] rfl rfl (by kernel_rfl) (fun _ _ _ h => h) (Or.inl ⟨by rfl, ?_⟩) ?_ ?_
       rotate_left
       ·intro w'
        go_simp
        with_reducible rfl
       rotate_left
       ·simp only [Act.put, List.setIfInBounds_toArray, List.set_cons_zero, List.set_cons_succ, i64_w, i32_w]
        rfl
       refine take_ (i := 4) (N := some 58) (v := ?_) (a' := ?_) #[Y, Y, Y, Y, Y, Y, Yn, Yn, Yn, Yn, Yn] rfl rfl (by kernel_rfl) (fun _ _ _ h => h) (Or.inl ⟨by rfl, ?_⟩) hHeld ?_ ?_
       rotate_left
       ·rintro w' ⟨s0, s1, s2⟩
        go_simp
        with_reducible rfl
       rotate_left
       ·simp only [Act.put, List.setIfInBounds_toArray, List.set_cons_zero, List.set_cons_succ, i64_w, i32_w]
        rfl
       refine take_ (i := 6) (N := some 60) (v := ?_) (a' := ?_) #[Y, Y, Y, Y, Y, Y, Y, Yn, Yn, Yn, Yn] rfl rfl (by kernel_rfl) (fun _ _ _ h => h) (Or.inl ⟨by rfl, ?_⟩) hHeld ?_ ?_
       rotate_left
       ·rintro w' ⟨s0, s1, s2⟩
        go_simp
        with_reducible rfl
       rotate_left
       ·simp only [Act.put, List.setIfInBounds_toArray, List.set_cons_zero, List.set_cons_succ, i64_w, i32_w]
        rfl
       refine one_ (i := 7) (N := some 61) #[Y, Y, Y, Y, Y, Y, Y, Y, Yn, Yn, Yn] rfl rfl (by kernel_rfl) (by decide) (fun K hK => ?_)
       refine step_append_str (w0 := w6) B (by rfl) (.tmp 58) (.tmp 60) 80 9 5 rfl Tryd.underlying80 Tryd.underlying9 info5 (.slice A5 msg.length k5') msg p5 rfl rfl HO6.out (Below.refl _ _) (Nat.le_trans HBS.out HK6.out.size) HLEN.out ?_
       intro v1 w7 ho hb hg
       obtain ⟨ms, HMS⟩ : ∃ ms, Aside0 (msg ++ bytesOf p5 = ms) := ⟨_, ⟨rfl⟩⟩
       rw [HMS.out] at ho
       obtain ⟨A7, k7, e7⟩ := Kd.R_slice ho
       subst e7
       have HS7 := Aside0.mk (rcv_step HG6.out HGE.out HO6.out ho hb hg)
       have BR7 := Aside0.mk (blk_grown BR6.out hg (Kd.R_ne HO6.out BR6.out (by decide)))
       have BP7 := Aside0.mk (blk_grown BP6.out hg (Kd.R_ne HO6.out BP6.out (by decide)))
       have HB7 := Aside0.mk (HB6.out.trans HS7.out.bel1)
       have HK7 := Aside0.mk (HK6.out.trans HS7.out.keep1)
       have f4 := blk_frozen HS7.out.blk 4
       have c4 := (blk_cell HS7.out.blk 4).trans rfl
       clear ho hb hg
       refine hK.out _ _ ⟨(blk_cell BR7.out 0).trans rfl, c4, (blk_cell BP7.out 5).trans rfl⟩ (fun hHeld => ?_)
       clear hK K
       refine norm_ (a' := ?_) ?_ ?_
       rotate_left
       ·show Act.put _ (some 61) _ = _
        simp only [Act.put, List.setIfInBounds_toArray, List.set_cons_zero, List.set_cons_succ, i64_w, i32_w]
        rfl
       refine pure_ (i := 8) (N := some 62) (v := ?_) (a' := ?_) #[Y, Y, Y, Y, Y, Y, Y, Y, Y, Yn, Yn] rfl rfl (by kernel_rfl) (fun _ _ _ h => h) (Or.inl ⟨by rfl, ?_⟩) ?_ ?_
       rotate_left
       ·intro w'
        go_simp
        with_reducible rfl
       rotate_left
       ·simp only [Act.put, List.setIfInBounds_toArray, List.set_cons_zero, List.set_cons_succ, i64_w, i32_w]
        rfl
       refine pure_ (i := 9) (N := some 63) (v := ?_) (a' := ?_) #[Y, Y, Y, Y, Y, Y, Y, Y, Y, Y, Yn] rfl rfl (by kernel_rfl) (fun _ _ _ h => h) (Or.inl ⟨by rfl, ?_⟩) ?_ ?_
       rotate_left
       ·intro w'
        go_simp
        with_reducible rfl
       rotate_left
       ·simp only [Act.put, List.setIfInBounds_toArray, List.set_cons_zero, List.set_cons_succ, i64_w, i32_w]
        rfl
       refine last_ (i := 10) (N := none) #[Y, Y, Y, Y, Y, Y, Y, Y, Y, Y, Y] rfl rfl (by kernel_rfl) (by decide) (fun K hK => ?_)
       refine skip_ (w1 := ?_) (by rfl) rfl ?_ ?_
       rotate_left
       ·go_simp
        rfl
       refine hK.out _ _ ?_
       clear hK K
       refine done_ (by kernel_rfl) ?_
       have HI8 := Aside0.mk HS7.out.at_
       have BR8 := Aside0.mk (blk_far BR7.out (p := ⟨g, 4, none⟩) HNR.out (.slice A7 ms.length k7))
       have BP8 := Aside0.mk (blk_far BP7.out (p := ⟨g, 4, none⟩) HNP.out (.slice A7 ms.length k7))
       have HB8 := Aside0.mk (HB7.out.setCell (p := ⟨g, 4, none⟩) HGE.out (.slice A7 ms.length k7))
       have HK8 := Aside0.mk (HK7.out.set 4 (.slice A7 ms.length k7))
       generalize w7.setCell ⟨g, 4, none⟩ (.slice A7 ms.length k7) = w8 at HI8 BR8 BP8 HB8 HK8 ⊢
       obtain ⟨v8, hG8, hge8, hO8⟩ := HI8.out
       have HG8 := Aside0.mk hG8
       clear hG8 hge8 hO8
       clear cr c4 y5 f4 hHeld
       have y3 := (blk_cell BP8.out 3).trans rfl
       have cr := (blk_cell BR8.out 0).trans rfl
       have c1 := (blk_cell HG8.out 1).trans rfl
       have y3b : p3 = true := K6.out
       go_wp2
       have HI9 := Aside0.mk HI8.out.drew
       have HG9 := Aside0.mk (blk_drew HG8.out)
       have BR9 := Aside0.mk (blk_drew BR8.out)
       have BP9 := Aside0.mk (blk_drew BP8.out)
       have HB9 := Aside0.mk HB8.out.drew
       have HK9 := Aside0.mk HK8.out.drew
       refine start_ (n := 10) (S := fun w' => w'.cell? ⟨gr, 0, none⟩ = some (.pointer (some ⟨g, 0, none⟩)) ∧ w'.cell? ⟨g, 1, none⟩ = some (.int .i64 timeout)) (ds := [9]) #[Yn, Yn, Yn, Yn, Yn, Yn, Yn, Yn, Yn, Yn] (by kernel_rfl) rfl rfl ⟨cr, c1⟩ (fun hHeld => ?_)
       generalize w8.drew = w9 at HI9 HG9 BR9 BP9 HB9 HK9 hHeld ⊢
       refine pure_ (i := 1) (N := some 71) (v := ?_) (a' := ?_) #[Yn, Y, Yn, Yn, Yn, Yn, Yn, Yn, Yn, Yn] rfl rfl (by kernel_rfl) (fun _ _ _ h => h) (Or.inl ⟨by rfl, ?_⟩) ?_ ?_
       rotate_left
       ·intro w'
        go_simp
        with_reducible rfl
       rotate_left
       ·simp only [Act.put, List.setIfInBounds_toArray, List.set_cons_zero, List.set_cons_succ, i64_w, i32_w]
        rfl
       refine take_ (i := 0) (N := some 70) (v := ?_) (a' := ?_) #[Y, Y, Yn, Yn, Yn, Yn, Yn, Yn, Yn, Yn] rfl rfl (by kernel_rfl) (fun _ _ _ h => h) (Or.inl ⟨by rfl, ?_⟩) hHeld ?_ ?_
       rotate_left
       ·rintro w' ⟨s0, s1⟩
        go_simp
        with_reducible rfl
       rotate_left
       ·simp only [Act.put, List.setIfInBounds_toArray, List.set_cons_zero, List.set_cons_succ, i64_w, i32_w]
        rfl
       refine take_ (i := 2) (N := some 72) (v := ?_) (a' := ?_) #[Y, Y, Y, Yn, Yn, Yn, Yn, Yn, Yn, Yn] rfl rfl (by kernel_rfl) (fun _ _ _ h => h) (Or.inl ⟨by rfl, ?_⟩) hHeld ?_ ?_
       rotate_left
       ·rintro w' ⟨s0, s1⟩
        go_simp
        with_reducible rfl
       rotate_left
       ·simp only [Act.put, List.setIfInBounds_toArray, List.set_cons_zero, List.set_cons_succ, i64_w, i32_w]
        rfl
       refine pure_ (i := 3) (N := some 73) (v := ?_) (a' := ?_) #[Y, Y, Y, Y, Yn, Yn, Yn, Yn, Yn, Yn] rfl rfl (by kernel_rfl) (fun _ _ _ h => h) (Or.inl ⟨by rfl, ?_⟩) ?_ ?_
       rotate_left
       ·intro w'
        go_simp
        with_reducible rfl
       rotate_left
       ·simp only [Act.put, List.setIfInBounds_toArray, List.set_cons_zero, List.set_cons_succ, i64_w, i32_w]
        rfl
       refine pure_ (i := 4) (N := some 74) (v := ?_) (a' := ?_) #[Y, Y, Y, Y, Y, Yn, Yn, Yn, Yn, Yn] rfl rfl (by kernel_rfl) (fun _ _ _ h => h) (Or.inl ⟨by rfl, ?_⟩) ?_ ?_
       rotate_left
       ·intro w'
        go_simp
        with_reducible rfl
       rotate_left
       ·simp only [Act.put, List.setIfInBounds_toArray, List.set_cons_zero, List.set_cons_succ, i64_w, i32_w]
        rfl
       refine take_ (i := 5) (N := some 75) (v := ?_) (a' := ?_) #[Y, Y, Y, Y, Y, Y, Yn, Yn, Yn, Yn] rfl rfl (by kernel_rfl) (fun _ _ _ h => h) (Or.inl ⟨by rfl, ?_⟩) hHeld ?_ ?_
       rotate_left
       ·rintro w' ⟨s0, s1⟩
        go_simp
        with_reducible rfl
       rotate_left
       ·simp only [Act.put, List.setIfInBounds_toArray, List.set_cons_zero, List.set_cons_succ, i64_w, i32_w]
        rfl
       refine pure_ (i := 6) (N := some 76) (v := ?_) (a' := ?_) #[Y, Y, Y, Y, Y, Y, Y, Yn, Yn, Yn] rfl rfl (by kernel_rfl) (fun _ _ _ h => h) (Or.inl ⟨by rfl, ?_⟩) ?_ ?_
       rotate_left
       ·intro w'
        go_simp
        with_reducible rfl
       rotate_left
       ·simp only [Act.put, List.setIfInBounds_toArray, List.set_cons_zero, List.set_cons_succ, i64_w, i32_w]
        rfl
       refine pure_ (i := 7) (N := some 77) (v := ?_) (a' := ?_) #[Y, Y, Y, Y, Y, Y, Y, Y, Yn, Yn] rfl rfl (by kernel_rfl) (fun _ _ _ h => h) (Or.inl ⟨by rfl, ?_⟩) ?_ ?_
       rotate_left
       ·intro w'
        go_simp
        with_reducible rfl
       rotate_left
       ·simp only [Act.put, List.setIfInBounds_toArray, List.set_cons_zero, List.set_cons_succ, i64_w, i32_w]
        rfl
       refine pure_ (i := 8) (N := some 78) (v := ?_) (a' := ?_) #[Y, Y, Y, Y, Y, Y, Y, Y, Y, Yn] rfl rfl (by kernel_rfl) (fun _ _ _ h => h) (Or.inl ⟨by rfl, ?_⟩) ?_ ?_
       rotate_left
       ·intro w'
        go_simp
        with_reducible rfl
       rotate_left
       ·simp only [Act.put, List.setIfInBounds_toArray, List.set_cons_zero, List.set_cons_succ, i64_w, i32_w]
        rfl
       refine last_ (i := 9) (N := none) #[Y, Y, Y, Y, Y, Y, Y, Y, Y, Y] rfl rfl (by kernel_rfl) (by decide) (fun K hK => ?_)
       have f5 := blk_frozen HG9.out 5
       have c5 := (blk_cell HG9.out 5).trans rfl
       refine skip_ (w1 := ?_) (by rfl) rfl ?_ ?_
       rotate_left
       ·go_simp
        rfl
       refine hK.out _ _ ?_
       clear hK K
       refine done_ (by kernel_rfl) ?_
       have HI10 := Aside0.mk (HI9.out.set_deadline (wrap64 (now + timeout)))
       have HG10 := Aside0.mk (blk_put HG9.out 5 (.int .i64 (wrap64 (now + timeout))) rfl)
       have BR10 := Aside0.mk (blk_far BR9.out (p := ⟨g, 5, none⟩) HNR.out (.int .i64 (wrap64 (now + timeout))))
       have BP10 := Aside0.mk (blk_far BP9.out (p := ⟨g, 5, none⟩) HNP.out (.int .i64 (wrap64 (now + timeout))))
       have HB10 := Aside0.mk (HB9.out.setCell (p := ⟨g, 5, none⟩) HGE.out (.int .i64 (wrap64 (now + timeout))))
       have HK10 := Aside0.mk (HK9.out.set 5 (.int .i64 (wrap64 (now + timeout))))
       generalize w9.setCell ⟨g, 5, none⟩ (.int .i64 (wrap64 (now + timeout))) = w10 at HI10 HG10 BR10 BP10 HB10 HK10 ⊢
       clear cr c1 f5 c5 hHeld
       have cr := (blk_cell BR10.out 0).trans rfl
       have c0 := (blk_cell HG10.out 0).trans rfl
       have c3 := (blk_cell HG10.out 3).trans rfl
       go_wp2
       have HI11 := Aside0.mk HI10.out.drew
       have HG11 := Aside0.mk (blk_drew HG10.out)
       have BR11 := Aside0.mk (blk_drew BR10.out)
       have BP11 := Aside0.mk (blk_drew BP10.out)
       have HB11 := Aside0.mk HB10.out.drew
       have HK11 := Aside0.mk HK10.out.drew
       refine start_ (n := 12) (S := fun w' => w'.cell? ⟨gr, 0, none⟩ = some (.pointer (some ⟨g, 0, none⟩)) ∧ w'.cell? ⟨g, 0, none⟩ = some (.int .i64 id) ∧ w'.cell? ⟨g, 3, none⟩ = some (.int .i64 (wrap64 (count + 1)))) (ds := []) #[Yn, Yn, Yn, Yn, Yn, Yn, Yn, Yn, Yn, Yn, Yn, Yn] (by kernel_rfl) rfl rfl ⟨cr, c0, c3⟩ (fun hHeld => ?_)
       generalize w10.drew = w11 at HI11 HG11 BR11 BP11 HB11 HK11 hHeld ⊢
       refine take_ (i := 0) (N := some 2) (v := ?_) (a' := ?_) #[Y, Yn, Yn, Yn, Yn, Yn, Yn, Yn, Yn, Yn, Yn, Yn] rfl rfl (by kernel_rfl) (fun _ _ _ h => h) (Or.inl ⟨by rfl, ?_⟩) hHeld ?_ ?_
       rotate_left
       ·rintro w' ⟨s0, s1, s2⟩
        go_simp
        with_reducible rfl
       rotate_left
       ·simp only [Act.put, List.setIfInBounds_toArray, List.set_cons_zero, List.set_cons_succ, i64_w, i32_w]
        rfl
       refine pure_ (i := 1) (N := some 3) (v := ?_) (a' := ?_) #[Y, Y, Yn, Yn, Yn, Yn, Yn, Yn, Yn, Yn, Yn, Yn] rfl rfl (by kernel_rfl) (fun _ _ _ h => h) (Or.inl ⟨by rfl, ?_⟩) ?_ ?_
       rotate_left
       ·intro w'
        go_simp
        with_reducible rfl
       rotate_left
       ·simp only [Act.put, List.setIfInBounds_toArray, List.set_cons_zero, List.set_cons_succ, i64_w, i32_w]
        rfl
       refine pure_ (i := 2) (N := some 4) (v := ?_) (a' := ?_) #[Y, Y, Y, Yn, Yn, Yn, Yn, Yn, Yn, Yn, Yn, Yn] rfl rfl (by kernel_rfl) (fun _ _ _ h => h) (Or.inl ⟨by rfl, ?_⟩) ?_ ?_
       rotate_left
       ·intro w'
        go_simp
        with_reducible rfl
       rotate_left
       ·simp only [Act.put, List.setIfInBounds_toArray, List.set_cons_zero, List.set_cons_succ, i64_w, i32_w]
        rfl
       refine take_ (i := 3) (N := some 5) (v := ?_) (a' := ?_) #[Y, Y, Y, Y, Yn, Yn, Yn, Yn, Yn, Yn, Yn, Yn] rfl rfl (by kernel_rfl) (fun _ _ _ h => h) (Or.inl ⟨by rfl, ?_⟩) hHeld ?_ ?_
       rotate_left
       ·rintro w' ⟨s0, s1, s2⟩
        go_simp
        with_reducible rfl
       rotate_left
       ·simp only [Act.put, List.setIfInBounds_toArray, List.set_cons_zero, List.set_cons_succ, i64_w, i32_w]
        rfl
       refine take_ (i := 4) (N := some 6) (v := ?_) (a' := ?_) #[Y, Y, Y, Y, Y, Yn, Yn, Yn, Yn, Yn, Yn, Yn] rfl rfl (by kernel_rfl) (fun _ _ _ h => h) (Or.inl ⟨by rfl, ?_⟩) hHeld ?_ ?_
       rotate_left
       ·rintro w' ⟨s0, s1, s2⟩
        go_simp
        with_reducible rfl
       rotate_left
       ·simp only [Act.put, List.setIfInBounds_toArray, List.set_cons_zero, List.set_cons_succ, i64_w, i32_w]
        rfl
       refine pure_ (i := 5) (N := some 7) (v := ?_) (a' := ?_) #[Y, Y, Y, Y, Y, Y, Yn, Yn, Yn, Yn, Yn, Yn] rfl rfl (by kernel_rfl) (fun _ _ _ h => h) (Or.inl ⟨by rfl, ?_⟩) ?_ ?_
       rotate_left
       ·intro w'
        go_simp
        with_reducible rfl
       rotate_left
       ·simp only [Act.put, List.setIfInBounds_toArray, List.set_cons_zero, List.set_cons_succ, i64_w, i32_w]
        rfl
       refine pure_ (i := 6) (N := some 8) (v := ?_) (a' := ?_) #[Y, Y, Y, Y, Y, Y, Y, Yn, Yn, Yn, Yn, Yn] rfl rfl (by kernel_rfl) (fun _ _ _ h => h) (Or.inl ⟨by rfl, ?_⟩) ?_ ?_
       rotate_left
       ·intro w'
        go_simp
        with_reducible rfl
       rotate_left
       ·simp only [Act.put, List.setIfInBounds_toArray, List.set_cons_zero, List.set_cons_succ, i64_w, i32_w]
        rfl
       refine take_ (i := 7) (N := some 9) (v := ?_) (a' := ?_) #[Y, Y, Y, Y, Y, Y, Y, Y, Yn, Yn, Yn, Yn] rfl rfl (by kernel_rfl) (fun _ _ _ h => h) (Or.inl ⟨by rfl, ?_⟩) hHeld ?_ ?_
       rotate_left
       ·rintro w' ⟨s0, s1, s2⟩
        go_simp
        with_reducible rfl
       rotate_left
       ·simp only [Act.put, List.setIfInBounds_toArray, List.set_cons_zero, List.set_cons_succ, i64_w, i32_w]
        rfl
       refine pure_ (i := 8) (N := some 10) (v := ?_) (a' := ?_) #[Y, Y, Y, Y, Y, Y, Y, Y, Y, Yn, Yn, Yn] rfl rfl (by kernel_rfl) (fun _ _ _ h => h) (Or.inl ⟨by rfl, ?_⟩) ?_ ?_
       rotate_left
       ·intro w'
        go_simp
        with_reducible rfl
       rotate_left
       ·simp only [Act.put, List.setIfInBounds_toArray, List.set_cons_zero, List.set_cons_succ, i64_w, i32_w]
        rfl
       refine pure_ (i := 9) (N := some 11) (v := ?_) (a' := ?_) #[Y, Y, Y, Y, Y, Y, Y, Y, Y, Y, Yn, Yn] rfl rfl (by kernel_rfl) (fun _ _ _ h => h) (Or.inl ⟨by rfl, ?_⟩) ?_ ?_
       rotate_left
       ·intro w'
        go_simp
        with_reducible rfl
       rotate_left
       ·simp only [Act.put, List.setIfInBounds_toArray, List.set_cons_zero, List.set_cons_succ, i64_w, i32_w]
        rfl
       refine one_ (i := 10) (N := some 12) #[Y, Y, Y, Y, Y, Y, Y, Y, Y, Y, Y, Yn] rfl rfl (by kernel_rfl) (by decide) (fun K hK => ?_)
       refine value_ (w1 := ?_) (v := ?_) (by rfl) rfl ?_ ?_
       rotate_left 2
       ·go_simp
        constructor
        ·rfl
        ·rfl
       refine hK.out _ _ ⟨(blk_cell (by (with_reducible repeat (first | refine blk_drewN ?_ _ | refine blk_drew ?_ | refine blk_alloc ?_ _)); exact BR11.out) 0).trans rfl, (blk_cell (by (with_reducible repeat (first | refine blk_drewN ?_ _ | refine blk_drew ?_ | refine blk_alloc ?_ _)); exact HG11.out) 0).trans rfl, (blk_cell (by (with_reducible repeat (first | refine blk_drewN ?_ _ | refine blk_drew ?_ | refine blk_alloc ?_ _)); exact HG11.out) 3).trans rfl⟩ (fun hHeld => ?_)
       clear hK K
       refine norm_ (a' := ?_) ?_ ?_
       rotate_left
       ·show Act.put _ (some 12) _ = _
        simp only [Act.put, List.setIfInBounds_toArray, List.set_cons_zero, List.set_cons_succ, i64_w, i32_w]
        rfl
       refine pure_ (i := 11) (N := some 1) (v := ?_) (a' := ?_) #[Y, Y, Y, Y, Y, Y, Y, Y, Y, Y, Y, Y] rfl rfl (by kernel_rfl) (fun _ _ _ h => h) (Or.inl ⟨by rfl, ?_⟩) ?_ ?_
       rotate_left
       ·intro w'
        go_simp
        with_reducible rfl
       rotate_left
       ·simp only [Act.put, List.setIfInBounds_toArray, List.set_cons_zero, List.set_cons_succ, i64_w, i32_w]
        rfl
       refine done_ (by kernel_rfl) ?_
       go_wp2
       go_ret
       exact ⟨_, rfl, V_one23 (Rn.ack ⟨id, timeout, state, (wrap64 (count + 1)), ms, wrap64 (now + timeout)⟩) _ rfl HK11.out.size, (by first | exact HI11.out.alloc _ | (rw [HMS.out]; exact HI11.out.alloc _)), HB11.out.alloc (Nat.le_trans HBS.out HK11.out.size) _, HK11.out.alloc _⟩
      ·have K6 := Aside0.mk k6
       have HT := Aside0.mk (show Rn.handle ⟨id, timeout, state, count, msg, deadline⟩ p0 p1 p2 p3 p5 now = ([Rn.ack ⟨id, timeout, 1, wrap64 (count + 1), msg ++ bytesOf p5, wrap64 (now + timeout)⟩], ⟨id, timeout, 1, wrap64 (count + 1), msg ++ bytesOf p5, wrap64 (now + timeout)⟩) by unfold Rn.handle; rw [if_pos k1, if_pos k2, if_neg k3, if_pos k4, show Rn.take ⟨id, timeout, state, count, msg, deadline⟩ p2 p3 p5 = ⟨id, timeout, 1, wrap64 (count + 1), msg ++ bytesOf p5, deadline⟩ from by unfold Rn.take; rw [if_pos k5, k6]; rfl]; try rfl)
       rw [HT.out]
       clear k1 k2 k3 k4 k5
       go_enter Tryd.func34, Tryd.ntmps34
       go_wp2_with (first | ((with_reducible refine gate_dst (N := 3) rfl ?_); refine box_event ?hg (N := 3) ?hd (cs := #[.pointer (some ⟨g, 0, none⟩)]) (t := 64) ?hr ?_; (case hd => rfl); (case hg => rfl); (case hr => first | (go_simp; done) | (go_simp; rfl)); intro gr hgr w1 hbox hb; have BRa := Aside0.mk hbox; have HIa := Aside0.mk (HI.out.below hb); have HGa := Aside0.mk (blk_below HG.out hb); have HBa := Aside0.mk (hb.mono HBS.out); have HKa := Aside0.mk (KeepR.of_below hb g); clear hb hbox hgr) | ((with_reducible refine gate_dst (N := 4) rfl ?_); refine box_event ?hg (N := 4) ?hd (cs := #[.int .i64 p0, .int .i64 p1, .int .i64 p2, .bool p3, .int .i64 p4, .string p5]) (t := 23) ?hr ?_; (case hd => rfl); (case hg => rfl); (case hr => first | (go_simp; done) | (go_simp; rfl)); intro gp hgp w2 hbox hb; have BP2 := Aside0.mk hbox; have BR2 := Aside0.mk (blk_below BRa.out hb); have HI2 := Aside0.mk (HIa.out.below hb); have HG2 := Aside0.mk (blk_below HGa.out hb); have HB2 := Aside0.mk (HBa.out.trans (hb.mono (Nat.le_trans HBS.out HKa.out.size))); have HK2 := Aside0.mk (HKa.out.trans (KeepR.of_below hb g)); have HNR := Aside0.mk (blk_ne BR2.out HG2.out (by decide)); have HNP := Aside0.mk (blk_ne BP2.out HG2.out (by decide)); have cr := (blk_cell BR2.out 0).trans rfl; have c0 := (blk_cell HG2.out 0).trans rfl; have y1 := (blk_cell BP2.out 1).trans rfl; clear hb hbox hgp BRa HIa HGa HBa HKa))
       have HI3 := Aside0.mk HI2.out.drew
       have HG3 := Aside0.mk (blk_drew HG2.out)
       have BR3 := Aside0.mk (blk_drew BR2.out)
       have BP3 := Aside0.mk (blk_drew BP2.out)
       have HB3 := Aside0.mk HB2.out.drew
       have HK3 := Aside0.mk HK2.out.drew
       refine start_ (n := 7) (S := fun w' => w'.cell? ⟨gp, 1, none⟩ = some (.int .i64 p1) ∧ w'.cell? ⟨gr, 0, none⟩ = some (.pointer (some ⟨g, 0, none⟩)) ∧ w'.cell? ⟨g, 0, none⟩ = some (.int .i64 id)) (ds := []) #[Yn, Yn, Yn, Yn, Yn, Yn, Yn] (by kernel_rfl) rfl rfl ⟨y1, cr, c0⟩ (fun hHeld => ?_)
       generalize w2.drew = w3 at HI3 HG3 BR3 BP3 HB3 HK3 hHeld ⊢
       refine pure_ (i := 0) (N := some 8) (v := ?_) (a' := ?_) #[Y, Yn, Yn, Yn, Yn, Yn, Yn] rfl rfl (by kernel_rfl) (fun _ _ _ h => h) (Or.inl ⟨by rfl, ?_⟩) ?_ ?_
       rotate_left
       ·intro w'
        go_simp
        with_reducible rfl
       rotate_left
       ·simp only [Act.put, List.setIfInBounds_toArray, List.set_cons_zero, List.set_cons_succ, i64_w, i32_w]
        rfl
       refine take_ (i := 1) (N := some 9) (v := ?_) (a' := ?_) #[Y, Y, Yn, Yn, Yn, Yn, Yn] rfl rfl (by kernel_rfl) (fun _ _ _ h => h) (Or.inl ⟨by rfl, ?_⟩) hHeld ?_ ?_
       rotate_left
       ·rintro w' ⟨s0, s1, s2⟩
        go_simp
        with_reducible rfl
       rotate_left
       ·simp only [Act.put, List.setIfInBounds_toArray, List.set_cons_zero, List.set_cons_succ, i64_w, i32_w]
        rfl
       refine take_ (i := 2) (N := some 10) (v := ?_) (a' := ?_) #[Y, Y, Y, Yn, Yn, Yn, Yn] rfl rfl (by kernel_rfl) (fun _ _ _ h => h) (Or.inl ⟨by rfl, ?_⟩) hHeld ?_ ?_
       rotate_left
       ·rintro w' ⟨s0, s1, s2⟩
        go_simp
        with_reducible rfl
       rotate_left
       ·simp only [Act.put, List.setIfInBounds_toArray, List.set_cons_zero, List.set_cons_succ, i64_w, i32_w]
        rfl
       refine pure_ (i := 3) (N := some 11) (v := ?_) (a' := ?_) #[Y, Y, Y, Y, Yn, Yn, Yn] rfl rfl (by kernel_rfl) (fun _ _ _ h => h) (Or.inl ⟨by rfl, ?_⟩) ?_ ?_
       rotate_left
       ·intro w'
        go_simp
        with_reducible rfl
       rotate_left
       ·simp only [Act.put, List.setIfInBounds_toArray, List.set_cons_zero, List.set_cons_succ, i64_w, i32_w]
        rfl
       refine pure_ (i := 4) (N := some 12) (v := ?_) (a' := ?_) #[Y, Y, Y, Y, Y, Yn, Yn] rfl rfl (by kernel_rfl) (fun _ _ _ h => h) (Or.inl ⟨by rfl, ?_⟩) ?_ ?_
       rotate_left
       ·intro w'
        go_simp
        with_reducible rfl
       rotate_left
       ·simp only [Act.put, List.setIfInBounds_toArray, List.set_cons_zero, List.set_cons_succ, i64_w, i32_w]
        rfl
       refine take_ (i := 5) (N := some 13) (v := ?_) (a' := ?_) #[Y, Y, Y, Y, Y, Y, Yn] rfl rfl (by kernel_rfl) (fun _ _ _ h => h) (Or.inl ⟨by rfl, ?_⟩) hHeld ?_ ?_
       rotate_left
       ·rintro w' ⟨s0, s1, s2⟩
        go_simp
        with_reducible rfl
       rotate_left
       ·simp only [Act.put, List.setIfInBounds_toArray, List.set_cons_zero, List.set_cons_succ, i64_w, i32_w]
        rfl
       refine pure_ (i := 6) (N := some 14) (v := ?_) (a' := ?_) #[Y, Y, Y, Y, Y, Y, Y] rfl rfl (by kernel_rfl) (fun _ _ _ h => h) (Or.inl ⟨by rfl, ?_⟩) ?_ ?_
       rotate_left
       ·intro w'
        go_simp
        with_reducible rfl
       rotate_left
       ·simp only [Act.put, List.setIfInBounds_toArray, List.set_cons_zero, List.set_cons_succ, i64_w, i32_w]
        rfl
       refine done_ (by kernel_rfl) ?_
       clear cr c0 y1 hHeld
       have cr := (blk_cell BR3.out 0).trans rfl
       have y0 := (blk_cell BP3.out 0).trans rfl
       have c2 := (blk_cell HG3.out 2).trans rfl
       have y2 := (blk_cell BP3.out 2).trans rfl
       have c3 := (blk_cell HG3.out 3).trans rfl
       go_wp2
       have HI4 := Aside0.mk HI3.out.drew
       have HG4 := Aside0.mk (blk_drew HG3.out)
       have BR4 := Aside0.mk (blk_drew BR3.out)
       have BP4 := Aside0.mk (blk_drew BP3.out)
       have HB4 := Aside0.mk HB3.out.drew
       have HK4 := Aside0.mk HK3.out.drew
       refine start_ (n := 7) (S := fun w' => w'.cell? ⟨gp, 2, none⟩ = some (.int .i64 p2) ∧ w'.cell? ⟨gr, 0, none⟩ = some (.pointer (some ⟨g, 0, none⟩)) ∧ w'.cell? ⟨g, 3, none⟩ = some (.int .i64 count)) (ds := []) #[Yn, Yn, Yn, Yn, Yn, Yn, Yn] (by kernel_rfl) rfl rfl ⟨y2, cr, c3⟩ (fun hHeld => ?_)
       generalize w3.drew = w4 at HI4 HG4 BR4 BP4 HB4 HK4 hHeld ⊢
       refine pure_ (i := 0) (N := some 40) (v := ?_) (a' := ?_) #[Y, Yn, Yn, Yn, Yn, Yn, Yn] rfl rfl (by kernel_rfl) (fun _ _ _ h => h) (Or.inl ⟨by rfl, ?_⟩) ?_ ?_
       rotate_left
       ·intro w'
        go_simp
        with_reducible rfl
       rotate_left
       ·simp only [Act.put, List.setIfInBounds_toArray, List.set_cons_zero, List.set_cons_succ, i64_w, i32_w]
        rfl
       refine take_ (i := 1) (N := some 41) (v := ?_) (a' := ?_) #[Y, Y, Yn, Yn, Yn, Yn, Yn] rfl rfl (by kernel_rfl) (fun _ _ _ h => h) (Or.inl ⟨by rfl, ?_⟩) hHeld ?_ ?_
       rotate_left
       ·rintro w' ⟨s0, s1, s2⟩
        go_simp
        with_reducible rfl
       rotate_left
       ·simp only [Act.put, List.setIfInBounds_toArray, List.set_cons_zero, List.set_cons_succ, i64_w, i32_w]
        rfl
       refine take_ (i := 2) (N := some 42) (v := ?_) (a' := ?_) #[Y, Y, Y, Yn, Yn, Yn, Yn] rfl rfl (by kernel_rfl) (fun _ _ _ h => h) (Or.inl ⟨by rfl, ?_⟩) hHeld ?_ ?_
       rotate_left
       ·rintro w' ⟨s0, s1, s2⟩
        go_simp
        with_reducible rfl
       rotate_left
       ·simp only [Act.put, List.setIfInBounds_toArray, List.set_cons_zero, List.set_cons_succ, i64_w, i32_w]
        rfl
       refine pure_ (i := 3) (N := some 43) (v := ?_) (a' := ?_) #[Y, Y, Y, Y, Yn, Yn, Yn] rfl rfl (by kernel_rfl) (fun _ _ _ h => h) (Or.inl ⟨by rfl, ?_⟩) ?_ ?_
       rotate_left
       ·intro w'
        go_simp
        with_reducible rfl
       rotate_left
       ·simp only [Act.put, List.setIfInBounds_toArray, List.set_cons_zero, List.set_cons_succ, i64_w, i32_w]
        rfl
       refine pure_ (i := 4) (N := some 44) (v := ?_) (a' := ?_) #[Y, Y, Y, Y, Y, Yn, Yn] rfl rfl (by kernel_rfl) (fun _ _ _ h => h) (Or.inl ⟨by rfl, ?_⟩) ?_ ?_
       rotate_left
       ·intro w'
        go_simp
        with_reducible rfl
       rotate_left
       ·simp only [Act.put, List.setIfInBounds_toArray, List.set_cons_zero, List.set_cons_succ, i64_w, i32_w]
        rfl
       refine take_ (i := 5) (N := some 45) (v := ?_) (a' := ?_) #[Y, Y, Y, Y, Y, Y, Yn] rfl rfl (by kernel_rfl) (fun _ _ _ h => h) (Or.inl ⟨by rfl, ?_⟩) hHeld ?_ ?_
       rotate_left
       ·rintro w' ⟨s0, s1, s2⟩
        go_simp
        with_reducible rfl
       rotate_left
       ·simp only [Act.put, List.setIfInBounds_toArray, List.set_cons_zero, List.set_cons_succ, i64_w, i32_w]
        rfl
       refine pure_ (i := 6) (N := some 46) (v := ?_) (a' := ?_) #[Y, Y, Y, Y, Y, Y, Y] rfl rfl (by kernel_rfl) (fun _ _ _ h => h) (Or.inl ⟨by rfl, ?_⟩) ?_ ?_
       rotate_left
       ·intro w'
        go_simp
        with_reducible rfl
       rotate_left
       ·simp only [Act.put, List.setIfInBounds_toArray, List.set_cons_zero, List.set_cons_succ, i64_w, i32_w]
        rfl
       refine done_ (by kernel_rfl) ?_
       clear cr y0 c2 y2 c3 hHeld
       have cr := (blk_cell BR4.out 0).trans rfl
       have c3 := (blk_cell HG4.out 3).trans rfl
       have f3 := blk_frozen HG4.out 3
       have HI5 := Aside0.mk (HI4.out.set_count (wrap64 (count + 1)))
       have HG5 := Aside0.mk (blk_put HG4.out 3 (.int .i64 (wrap64 (count + 1))) rfl)
       have BR5 := Aside0.mk (blk_far BR4.out (p := ⟨g, 3, none⟩) HNR.out (.int .i64 (wrap64 (count + 1))))
       have BP5 := Aside0.mk (blk_far BP4.out (p := ⟨g, 3, none⟩) HNP.out (.int .i64 (wrap64 (count + 1))))
       have HB5 := Aside0.mk (HB4.out.setCell (p := ⟨g, 3, none⟩) HGE.out (.int .i64 (wrap64 (count + 1))))
       have HK5 := Aside0.mk (HK4.out.set 3 (.int .i64 (wrap64 (count + 1))))
       go_wp2
       generalize w4.setCell ⟨g, 3, none⟩ (.int .i64 (wrap64 (count + 1))) = w5 at HI5 HG5 BR5 BP5 HB5 HK5 ⊢
       clear cr c3 f3
       have cr := (blk_cell BR5.out 0).trans rfl
       have y5 := (blk_cell BP5.out 5).trans rfl
       obtain ⟨v5, hG5, hge5, hO5⟩ := HI5.out
       have hO5' : Kd.R (Kd.int .u8) 5 w5 B (fun _ => True) v5 msg := hO5
       obtain ⟨A5, k5', e5⟩ := Kd.R_slice hO5'
       subst e5
       have HG5' := Aside0.mk hG5
       have HO5 := Aside0.mk hO5'
       clear hG5 hge5 hO5 hO5'
       clear HG5
       have HG5 := HG5'
       clear HG5'
       have c4 := (blk_cell HG5.out 4).trans rfl
       have HO6 := Aside0.mk (Kd.R_drew HO5.out)
       have HI6 := Aside0.mk HI5.out.drew
       have HG6 := Aside0.mk (blk_drew HG5.out)
       have BR6 := Aside0.mk (blk_drew BR5.out)
       have BP6 := Aside0.mk (blk_drew BP5.out)
       have HB6 := Aside0.mk HB5.out.drew
       have HK6 := Aside0.mk HK5.out.drew
       refine start_ (n := 11) (S := fun w' => w'.cell? ⟨gr, 0, none⟩ = some (.pointer (some ⟨g, 0, none⟩)) ∧ w'.cell? ⟨g, 4, none⟩ = some (.slice A5 msg.length k5') ∧ w'.cell? ⟨gp, 5, none⟩ = some (.string p5)) (ds := [10]) #[Yn, Yn, Yn, Yn, Yn, Yn, Yn, Yn, Yn, Yn, Yn] (by kernel_rfl) rfl rfl ⟨cr, c4, y5⟩ (fun hHeld => ?_)
       generalize w5.drew = w6 at HI6 HG6 BR6 BP6 HB6 HK6 HO6 hHeld ⊢
       refine pure_ (i := 5) (N := some 59) (v := ?_) (a' := ?_) #[Yn, Yn, Yn, Yn, Yn, Y, Yn, Yn, Yn, Yn, Yn] rfl rfl (by kernel_rfl) (fun _ _ _ h => h) (Or.inl ⟨by rfl, ?_⟩) ?_ ?_
       rotate_left
       ·intro w'
        go_simp
        with_reducible rfl
       rotate_left
       ·simp only [Act.put, List.setIfInBounds_toArray, List.set_cons_zero, List.set_cons_succ, i64_w, i32_w]
        rfl
       refine take_ (i := 0) (N := some 54) (v := ?_) (a' := ?_) #[Y, Yn, Yn, Yn, Yn, Y, Yn, Yn, Yn, Yn, Yn] rfl rfl (by kernel_rfl) (fun _ _ _ h => h) (Or.inl ⟨by rfl, ?_⟩) hHeld ?_ ?_
       rotate_left
       ·rintro w' ⟨s0, s1, s2⟩
        go_simp
        with_reducible rfl
       rotate_left
       ·simp only [Act.put, List.setIfInBounds_toArray, List.set_cons_zero, List.set_cons_succ, i64_w, i32_w]
        rfl
       refine take_ (i := 1) (N := some 55) (v := ?_) (a' := ?_) #[Y, Y, Yn, Yn, Yn, Y, Yn, Yn, Yn, Yn, Yn] rfl rfl (by kernel_rfl) (fun _ _ _ h => h) (Or.inl ⟨by rfl, ?_⟩) hHeld ?_ ?_
       rotate_left
       ·rintro w' ⟨s0, s1, s2⟩
        go_simp
        with_reducible rfl
       rotate_left
       ·simp only [Act.put, List.setIfInBounds_toArray, List.set_cons_zero, List.set_cons_succ, i64_w, i32_w]
        rfl
       refine pure_ (i := 2) (N := some 56) (v := ?_) (a' := ?_) #[Y, Y, Y, Yn, Yn, Y, Yn, Yn, Yn, Yn, Yn] rfl rfl (by kernel_rfl) (fun _ _ _ h => h) (Or.inl ⟨by rfl, ?_⟩) ?_ ?_
       rotate_left
       ·intro w'
        go_simp
        with_reducible rfl
       rotate_left
       ·simp only [Act.put, List.setIfInBounds_toArray, List.set_cons_zero, List.set_cons_succ, i64_w, i32_w]
        rfl
       refine pure_ (i := 3) (N := some 57) (v := ?_) (a' := ?_) #[Y, Y, Y, Y, Yn, Y, Yn, Yn, Yn, Yn, Yn] rfl rfl (by kernel_rfl) (fun _ _ _ h => h) (Or.inl ⟨by rfl, ?_⟩) ?_ ?_
       rotate_left
       ·intro w'
        go_simp
        with_reducible rfl
       rotate_left
       ·simp only [Act.put, List.setIfInBounds_toArray, List.set_cons_zero, List.set_cons_succ, i64_w, i32_w]
        rfl
       refine take_ (i := 4) (N := some 58) (v := ?_) (a' := ?_) #[Y, Y, Y, Y, Y, Y, Yn, Yn, Yn, Yn, Yn] rfl rfl (by kernel_rfl) (fun _ _ _ h => h) (Or.inl ⟨by rfl, ?_⟩) hHeld ?_ ?_
       rotate_left
       ·rintro w' ⟨s0, s1, s2⟩
        go_simp
        with_reducible rfl
       rotate_left
       ·simp only [Act.put, List.setIfInBounds_toArray, List.set_cons_zero, List.set_cons_succ, i64_w, i32_w]
        rfl
       refine take_ (i := 6) (N := some 60) (v := ?_) (a' := ?_) #[Y, Y, Y, Y, Y, Y, Y, Yn, Yn, Yn, Yn] rfl rfl (by kernel_rfl) (fun _ _ _ h => h) (Or.inl ⟨by rfl, ?_⟩) hHeld ?_ ?_
       rotate_left
       ·rintro w' ⟨s0, s1, s2⟩
        go_simp
        with_reducible rfl
       rotate_left
       ·simp only [Act.put, List.setIfInBounds_toArray, List.set_cons_zero, List.set_cons_succ, i64_w, i32_w]
        rfl
       refine one_ (i := 7) (N := some 61) #[Y, Y, Y, Y, Y, Y, Y, Y, Yn, Yn, Yn] rfl rfl (by kernel_rfl) (by decide) (fun K hK => ?_)
       refine step_append_str (w0 := w6) B (by rfl) (.tmp 58) (.tmp 60) 80 9 5 rfl Tryd.underlying80 Tryd.underlying9 info5 (.slice A5 msg.length k5') msg p5 rfl rfl HO6.out (Below.refl _ _) (Nat.le_trans HBS.out HK6.out.size) HLEN.out ?_
       intro v1 w7 ho hb hg
       obtain ⟨ms, HMS⟩ : ∃ ms, Aside0 (msg ++ bytesOf p5 = ms) := ⟨_, ⟨rfl⟩⟩
       rw [HMS.out] at ho
       obtain ⟨A7, k7, e7⟩ := Kd.R_slice ho
       subst e7
       have HS7 := Aside0.mk (rcv_step HG6.out HGE.out HO6.out ho hb hg)
       have BR7 := Aside0.mk (blk_grown BR6.out hg (Kd.R_ne HO6.out BR6.out (by decide)))
       have BP7 := Aside0.mk (blk_grown BP6.out hg (Kd.R_ne HO6.out BP6.out (by decide)))
       have HB7 := Aside0.mk (HB6.out.trans HS7.out.bel1)
       have HK7 := Aside0.mk (HK6.out.trans HS7.out.keep1)
       have f4 := blk_frozen HS7.out.blk 4
       have c4 := (blk_cell HS7.out.blk 4).trans rfl
       clear ho hb hg
       refine hK.out _ _ ⟨(blk_cell BR7.out 0).trans rfl, c4, (blk_cell BP7.out 5).trans rfl⟩ (fun hHeld => ?_)
       clear hK K
       refine norm_ (a' := ?_) ?_ ?_
       rotate_left
       ·show Act.put _ (some 61) _ = _
        simp only [Act.put, List.setIfInBounds_toArray, List.set_cons_zero, List.set_cons_succ, i64_w, i32_w]
        rfl
       refine pure_ (i := 8) (N := some 62) (v := ?_) (a' := ?_) #[Y, Y, Y, Y, Y, Y, Y, Y, Y, Yn, Yn] rfl rfl (by kernel_rfl) (fun _ _ _ h => h) (Or.inl ⟨by rfl, ?_⟩) ?_ ?_
       rotate_left
       ·intro w'
        go_simp
        with_reducible rfl
       rotate_left
       ·simp only [Act.put, List.setIfInBounds_toArray, List.set_cons_zero, List.set_cons_succ, i64_w, i32_w]
        rfl
       refine pure_ (i := 9) (N := some 63) (v := ?_) (a' := ?_) #[Y, Y, Y, Y, Y, Y, Y, Y, Y, Y, Yn] rfl rfl (by kernel_rfl) (fun _ _ _ h => h) (Or.inl ⟨by rfl, ?_⟩) ?_ ?_
       rotate_left
       ·intro w'
        go_simp
        with_reducible rfl
       rotate_left
       ·simp only [Act.put, List.setIfInBounds_toArray, List.set_cons_zero, List.set_cons_succ, i64_w, i32_w]
        rfl
       refine last_ (i := 10) (N := none) #[Y, Y, Y, Y, Y, Y, Y, Y, Y, Y, Y] rfl rfl (by kernel_rfl) (by decide) (fun K hK => ?_)
       refine skip_ (w1 := ?_) (by rfl) rfl ?_ ?_
       rotate_left
       ·go_simp
        rfl
       refine hK.out _ _ ?_
       clear hK K
       refine done_ (by kernel_rfl) ?_
       have HI8 := Aside0.mk HS7.out.at_
       have BR8 := Aside0.mk (blk_far BR7.out (p := ⟨g, 4, none⟩) HNR.out (.slice A7 ms.length k7))
       have BP8 := Aside0.mk (blk_far BP7.out (p := ⟨g, 4, none⟩) HNP.out (.slice A7 ms.length k7))
       have HB8 := Aside0.mk (HB7.out.setCell (p := ⟨g, 4, none⟩) HGE.out (.slice A7 ms.length k7))
       have HK8 := Aside0.mk (HK7.out.set 4 (.slice A7 ms.length k7))
       generalize w7.setCell ⟨g, 4, none⟩ (.slice A7 ms.length k7) = w8 at HI8 BR8 BP8 HB8 HK8 ⊢
       obtain ⟨v8, hG8, hge8, hO8⟩ := HI8.out
       have HG8 := Aside0.mk hG8
       clear hG8 hge8 hO8
       clear cr c4 y5 f4 hHeld
       have y3 := (blk_cell BP8.out 3).trans rfl
       have cr := (blk_cell BR8.out 0).trans rfl
       have c2 := (blk_cell HG8.out 2).trans rfl
       have f2 := blk_frozen HG8.out 2
       have y3b : p3 = false := K6.out
       have HI9 := Aside0.mk (HI8.out.set_state 1)
       have HG9 := Aside0.mk (blk_put HG8.out 2 (.int .i64 1) rfl)
       have BR9 := Aside0.mk (blk_far BR8.out (p := ⟨g, 2, none⟩) HNR.out (.int .i64 1))
       have BP9 := Aside0.mk (blk_far BP8.out (p := ⟨g, 2, none⟩) HNP.out (.int .i64 1))
       have HB9 := Aside0.mk (HB8.out.setCell (p := ⟨g, 2, none⟩) HGE.out (.int .i64 1))
       have HK9 := Aside0.mk (HK8.out.set 2 (.int .i64 1))
       go_wp2
       generalize w8.setCell ⟨g, 2, none⟩ (.int .i64 1) = w9 at HI9 HG9 BR9 BP9 HB9 HK9 ⊢
       clear y3 cr c2 f2
       have cr := (blk_cell BR9.out 0).trans rfl
       have c1 := (blk_cell HG9.out 1).trans rfl
       have HI10 := Aside0.mk HI9.out.drew
       have HG10 := Aside0.mk (blk_drew HG9.out)
       have BR10 := Aside0.mk (blk_drew BR9.out)
       have BP10 := Aside0.mk (blk_drew BP9.out)
       have HB10 := Aside0.mk HB9.out.drew
       have HK10 := Aside0.mk HK9.out.drew
       refine start_ (n := 10) (S := fun w' => w'.cell? ⟨gr, 0, none⟩ = some (.pointer (some ⟨g, 0, none⟩)) ∧ w'.cell? ⟨g, 1, none⟩ = some (.int .i64 timeout)) (ds := [9]) #[Yn, Yn, Yn, Yn, Yn, Yn, Yn, Yn, Yn, Yn] (by kernel_rfl) rfl rfl ⟨cr, c1⟩ (fun hHeld => ?_)
       generalize w9.drew = w10 at HI10 HG10 BR10 BP10 HB10 HK10 hHeld ⊢
       refine pure_ (i := 1) (N := some 71) (v := ?_) (a' := ?_) #[Yn, Y, Yn, Yn, Yn, Yn, Yn, Yn, Yn, Yn] rfl rfl (by kernel_rfl) (fun _ _ _ h => h) (Or.inl ⟨by rfl, ?_⟩) ?_ ?_
       rotate_left
       ·intro w'
        go_simp
        with_reducible rfl
       rotate_left
       ·simp only [Act.put, List.setIfInBounds_toArray, List.set_cons_zero, List.set_cons_succ, i64_w, i32_w]
        rfl
       refine take_ (i := 0) (N := some 70) (v := ?_) (a' := ?_) #[Y, Y, Yn, Yn, Yn, Yn, Yn, Yn, Yn, Yn] rfl rfl (by kernel_rfl) (fun _ _ _ h => h) (Or.inl ⟨by rfl, ?_⟩) hHeld ?_ ?_
       rotate_left
       ·rintro w' ⟨s0, s1⟩
        go_simp
        with_reducible rfl
       rotate_left
       ·simp only [Act.put, List.setIfInBounds_toArray, List.set_cons_zero, List.set_cons_succ, i64_w, i32_w]
        rfl
       refine take_ (i := 2) (N := some 72) (v := ?_) (a' := ?_) #[Y, Y, Y, Yn, Yn, Yn, Yn, Yn, Yn, Yn] rfl rfl (by kernel_rfl) (fun _ _ _ h => h) (Or.inl ⟨by rfl, ?_⟩) hHeld ?_ ?_
       rotate_left
       ·rintro w' ⟨s0, s1⟩
        go_simp
        with_reducible rfl
       rotate_left
       ·simp only [Act.put, List.setIfInBounds_toArray, List.set_cons_zero, List.set_cons_succ, i64_w, i32_w]
        rfl
       refine pure_ (i := 3) (N := some 73) (v := ?_) (a' := ?_) #[Y, Y, Y, Y, Yn, Yn, Yn, Yn, Yn, Yn] rfl rfl (by kernel_rfl) (fun _ _ _ h => h) (Or.inl ⟨by rfl, ?_⟩) ?_ ?_
       rotate_left
       ·intro w'
        go_simp
        with_reducible rfl
       rotate_left
       ·simp only [Act.put, List.setIfInBounds_toArray, List.set_cons_zero, List.set_cons_succ, i64_w, i32_w]
        rfl
       refine pure_ (i := 4) (N := some 74) (v := ?_) (a' := ?_) #[Y, Y, Y, Y, Y, Yn, Yn, Yn, Yn, Yn] rfl rfl (by kernel_rfl) (fun _ _ _ h => h) (Or.inl ⟨by rfl, ?_⟩) ?_ ?_
       rotate_left
       ·intro w'
        go_simp
        with_reducible rfl
       rotate_left
       ·simp only [Act.put, List.setIfInBounds_toArray, List.set_cons_zero, List.set_cons_succ, i64_w, i32_w]
        rfl
       refine take_ (i := 5) (N := some 75) (v := ?_) (a' := ?_) #[Y, Y, Y, Y, Y, Y, Yn, Yn, Yn, Yn] rfl rfl (by kernel_rfl) (fun _ _ _ h => h) (Or.inl ⟨by rfl, ?_⟩) hHeld ?_ ?_
       rotate_left
       ·rintro w' ⟨s0, s1⟩
        go_simp
        with_reducible rfl
       rotate_left
       ·simp only [Act.put, List.setIfInBounds_toArray, List.set_cons_zero, List.set_cons_succ, i64_w, i32_w]
        rfl
       refine pure_ (i := 6) (N := some 76) (v := ?_) (a' := ?_) #[Y, Y, Y, Y, Y, Y, Y, Yn, Yn, Yn] rfl rfl (by kernel_rfl) (fun _ _ _ h => h) (Or.inl ⟨by rfl, ?_⟩) ?_ ?_
       rotate_left
       ·intro w'
        go_simp
        with_reducible rfl
       rotate_left
       ·simp only [Act.put, List.setIfInBounds_toArray, List.set_cons_zero, List.set_cons_succ, i64_w, i32_w]
        rfl
       refine pure_ (i := 7) (N := some 77) (v := ?_) (a' := ?_) #[Y, Y, Y, Y, Y, Y, Y, Y, Yn, Yn] rfl rfl (by kernel_rfl) (fun _ _ _ h => h) (Or.inl ⟨by rfl, ?_⟩) ?_ ?_
       rotate_left
       ·intro w'
        go_simp
        with_reducible rfl
       rotate_left
       ·simp only [Act.put, List.setIfInBounds_toArray, List.set_cons_zero, List.set_cons_succ, i64_w, i32_w]
        rfl
       refine pure_ (i := 8) (N := some 78) (v := ?_) (a' := ?_) #[Y, Y, Y, Y, Y, Y, Y, Y, Y, Yn] rfl rfl (by kernel_rfl) (fun _ _ _ h => h) (Or.inl ⟨by rfl, ?_⟩) ?_ ?_
       rotate_left
       ·intro w'
        go_simp
        with_reducible rfl
       rotate_left
       ·simp only [Act.put, List.setIfInBounds_toArray, List.set_cons_zero, List.set_cons_succ, i64_w, i32_w]
        rfl
       refine last_ (i := 9) (N := none) #[Y, Y, Y, Y, Y, Y, Y, Y, Y, Y] rfl rfl (by kernel_rfl) (by decide) (fun K hK => ?_)
       have f5 := blk_frozen HG10.out 5
       have c5 := (blk_cell HG10.out 5).trans rfl
       refine skip_ (w1 := ?_) (by rfl) rfl ?_ ?_
       rotate_left
       ·go_simp
        rfl
       refine hK.out _ _ ?_
       clear hK K
       refine done_ (by kernel_rfl) ?_
       have HI11 := Aside0.mk (HI10.out.set_deadline (wrap64 (now + timeout)))
       have HG11 := Aside0.mk (blk_put HG10.out 5 (.int .i64 (wrap64 (now + timeout))) rfl)
       have BR11 := Aside0.mk (blk_far BR10.out (p := ⟨g, 5, none⟩) HNR.out (.int .i64 (wrap64 (now + timeout))))
       have BP11 := Aside0.mk (blk_far BP10.out (p := ⟨g, 5, none⟩) HNP.out (.int .i64 (wrap64 (now + timeout))))
       have HB11 := Aside0.mk (HB10.out.setCell (p := ⟨g, 5, none⟩) HGE.out (.int .i64 (wrap64 (now + timeout))))
       have HK11 := Aside0.mk (HK10.out.set 5 (.int .i64 (wrap64 (now + timeout))))
       generalize w10.setCell ⟨g, 5, none⟩ (.int .i64 (wrap64 (now + timeout))) = w11 at HI11 HG11 BR11 BP11 HB11 HK11 ⊢
       clear cr c1 f5 c5 hHeld
       have cr := (blk_cell BR11.out 0).trans rfl
       have c0 := (blk_cell HG11.out 0).trans rfl
       have c3 := (blk_cell HG11.out 3).trans rfl
       go_wp2
       have HI12 := Aside0.mk HI11.out.drew
       have HG12 := Aside0.mk (blk_drew HG11.out)
       have BR12 := Aside0.mk (blk_drew BR11.out)
       have BP12 := Aside0.mk (blk_drew BP11.out)
       have HB12 := Aside0.mk HB11.out.drew
       have HK12 := Aside0.mk HK11.out.drew
       refine start_ (n := 12) (S := fun w' => w'.cell? ⟨gr, 0, none⟩ = some (.pointer (some ⟨g, 0, none⟩)) ∧ w'.cell? ⟨g, 0, none⟩ = some (.int .i64 id) ∧ w'.cell? ⟨g, 3, none⟩ = some (.int .i64 (wrap64 (count + 1)))) (ds := []) #[Yn, Yn, Yn, Yn, Yn, Yn, Yn, Yn, Yn, Yn, Yn, Yn] (by kernel_rfl) rfl rfl ⟨cr, c0, c3⟩ (fun hHeld => ?_)
       generalize w11.drew = w12 at HI12 HG12 BR12 BP12 HB12 HK12 hHeld ⊢
       refine take_ (i := 0) (N := some 2) (v := ?_) (a' := ?_) #[Y, Yn, Yn, Yn, Yn, Yn, Yn, Yn, Yn, Yn, Yn, Yn] rfl rfl (by kernel_rfl) (fun _ _ _ h => h) (Or.inl ⟨by rfl, ?_⟩) hHeld ?_ ?_
       rotate_left
       ·rintro w' ⟨s0, s1, s2⟩
        go_simp
        with_reducible rfl
       rotate_left
       ·simp only [Act.put, List.setIfInBounds_toArray, List.set_cons_zero, List.set_cons_succ, i64_w, i32_w]
        rfl
       refine pure_ (i := 1) (N := some 3) (v := ?_) (a' := ?_) #[Y, Y, Yn, Yn, Yn, Yn, Yn, Yn, Yn, Yn, Yn, Yn] rfl rfl (by kernel_rfl) (fun _ _ _ h => h) (Or.inl ⟨by rfl, ?_⟩) ?_ ?_
       rotate_left
       ·intro w'
        go_simp
        with_reducible rfl
       rotate_left
       ·simp only [Act.put, List.setIfInBounds_toArray, List.set_cons_zero, List.set_cons_succ, i64_w, i32_w]
        rfl
       refine pure_ (i := 2) (N := some 4) (v := ?_) (a' := ?_) #[Y, Y, Y, Yn, Yn, Yn, Yn, Yn, Yn, Yn, Yn, Yn] rfl rfl (by kernel_rfl) (fun _ _ _ h => h) (Or.inl ⟨by rfl, ?_⟩) ?_ ?_
       rotate_left
       ·intro w'
        go_simp
        with_reducible rfl
       rotate_left
       ·simp only [Act.put, List.setIfInBounds_toArray, List.set_cons_zero, List.set_cons_succ, i64_w, i32_w]
        rfl
       refine take_ (i := 3) (N := some 5) (v := ?_) (a' := ?_) #[Y, Y, Y, Y, Yn, Yn, Yn, Yn, Yn, Yn, Yn, Yn] rfl rfl (by kernel_rfl) (fun _ _ _ h => h) (Or.inl ⟨by rfl, ?_⟩) hHeld ?_ ?_
       rotate_left
       ·rintro w' ⟨s0, s1, s2⟩
        go_simp
        with_reducible rfl
       rotate_left
       ·simp only [Act.put, List.setIfInBounds_toArray, List.set_cons_zero, List.set_cons_succ, i64_w, i32_w]
        rfl
       refine take_ (i := 4) (N := some 6) (v := ?_) (a' := ?_) #[Y, Y, Y, Y, Y, Yn, Yn, Yn, Yn, Yn, Yn, Yn] rfl rfl (by kernel_rfl) (fun _ _ _ h => h) (Or.inl ⟨by rfl, ?_⟩) hHeld ?_ ?_
       rotate_left
       ·rintro w' ⟨s0, s1, s2⟩
        go_simp
        with_reducible rfl
       rotate_left
       ·simp only [Act.put, List.setIfInBounds_toArray, List.set_cons_zero, List.set_cons_succ, i64_w, i32_w]
        rfl
       refine pure_ (i := 5) (N := some 7) (v := ?_) (a' := ?_) #[Y, Y, Y, Y, Y, Y, Yn, Yn, Yn, Yn, Yn, Yn] rfl rfl (by kernel_rfl) (fun _ _ _ h => h) (Or.inl ⟨by rfl, ?_⟩) ?_ ?_
       rotate_left
       ·intro w'
        go_simp
        with_reducible rfl
       rotate_left
       ·simp only [Act.put, List.setIfInBounds_toArray, List.set_cons_zero, List.set_cons_succ, i64_w, i32_w]
        rfl
       refine pure_ (i := 6) (N := some 8) (v := ?_) (a' := ?_) #[Y, Y, Y, Y, Y, Y, Y, Yn, Yn, Yn, Yn, Yn] rfl rfl (by kernel_rfl) (fun _ _ _ h => h) (Or.inl ⟨by rfl, ?_⟩) ?_ ?_
       rotate_left
       ·intro w'
        go_simp
        with_reducible rfl
       rotate_left
       ·simp only [Act.put, List.setIfInBounds_toArray, List.set_cons_zero, List.set_cons_succ, i64_w, i32_w]
        rfl
       refine take_ (i := 7) (N := some 9) (v := ?_) (a' := ?_) #[Y, Y, Y, Y, Y, Y, Y, Y, Yn, Yn, Yn, Yn] rfl rfl (by kernel_rfl) (fun _ _ _ h => h) (Or.inl ⟨by rfl, ?_⟩) hHeld ?_ ?_
       rotate_left
       ·rintro w' ⟨s0, s1, s2⟩
        go_simp
        with_reducible rfl
       rotate_left
       ·simp only [Act.put, List.setIfInBounds_toArray, List.set_cons_zero, List.set_cons_succ, i64_w, i32_w]
        rfl
       refine pure_ (i := 8) (N := some 10) (v := ?_) (a' := ?_) #[Y, Y, Y, Y, Y, Y, Y, Y, Y, Yn, Yn, Yn] rfl rfl (by kernel_rfl) (fun _ _ _ h => h) (Or.inl ⟨by rfl, ?_⟩) ?_ ?_
       rotate_left
       ·intro w'
        go_simp
        with_reducible rfl
       rotate_left
       ·simp only [Act.put, List.setIfInBounds_toArray, List.set_cons_zero, List.set_cons_succ, i64_w, i32_w]
        rfl
       refine pure_ (i := 9) (N := some 11) (v := ?_) (a' := ?_) #[Y, Y, Y, Y, Y, Y, Y, Y, Y, Y, Yn, Yn] rfl rfl (by kernel_rfl) (fun _ _ _ h => h) (Or.inl ⟨by rfl, ?_⟩) ?_ ?_
       rotate_left
       ·intro w'
        go_simp
        with_reducible rfl
       rotate_left
       ·simp only [Act.put, List.setIfInBounds_toArray, List.set_cons_zero, List.set_cons_succ, i64_w, i32_w]
        rfl
       refine one_ (i := 10) (N := some 12) #[Y, Y, Y, Y, Y, Y, Y, Y, Y, Y, Y, Yn] rfl rfl (by kernel_rfl) (by decide) (fun K hK => ?_)
       refine value_ (w1 := ?_) (v := ?_) (by rfl) rfl ?_ ?_
       rotate_left 2
       ·go_simp
        constructor
        ·rfl
        ·rfl
       refine hK.out _ _ ⟨(blk_cell (by (with_reducible repeat (first | refine blk_drewN ?_ _ | refine blk_drew ?_ | refine blk_alloc ?_ _)); exact BR12.out) 0).trans rfl, (blk_cell (by (with_reducible repeat (first | refine blk_drewN ?_ _ | refine blk_drew ?_ | refine blk_alloc ?_ _)); exact HG12.out) 0).trans rfl, (blk_cell (by (with_reducible repeat (first | refine blk_drewN ?_ _ | refine blk_drew ?_ | refine blk_alloc ?_ _)); exact HG12.out) 3).trans rfl⟩ (fun hHeld => ?_)
       clear hK K
       refine norm_ (a' := ?_) ?_ ?_
       rotate_left
       ·show Act.put _ (some 12) _ = _
        simp only [Act.put, List.setIfInBounds_toArray, List.set_cons_zero, List.set_cons_succ, i64_w, i32_w]
        rfl
       refine pure_ (i := 11) (N := some 1) (v := ?_) (a' := ?_) #[Y, Y, Y, Y, Y, Y, Y, Y, Y, Y, Y, Y] rfl rfl (by kernel_rfl) (fun _ _ _ h => h) (Or.inl ⟨by rfl, ?_⟩) ?_ ?_
       rotate_left
       ·intro w'
        go_simp
        with_reducible rfl
       rotate_left
       ·simp only [Act.put, List.setIfInBounds_toArray, List.set_cons_zero, List.set_cons_succ, i64_w, i32_w]
        rfl
       refine done_ (by kernel_rfl) ?_
       go_wp2
       go_ret
       exact ⟨_, rfl, V_one23 (Rn.ack ⟨id, timeout, 1, (wrap64 (count + 1)), ms, wrap64 (now + timeout)⟩) _ rfl HK12.out.size, (by first | exact HI12.out.alloc _ | (rw [HMS.out]; exact HI12.out.alloc _)), HB12.out.alloc (Nat.le_trans HBS.out HK12.out.size) _, HK12.out.alloc _⟩
     ·have k5b : (p2 == count) = false := beq_false_of_ne k5
      have HT := Aside0.mk (show Rn.handle ⟨id, timeout, state, count, msg, deadline⟩ p0 p1 p2 p3 p5 now = ([Rn.ack ⟨id, timeout, state, count, msg, wrap64 (now + timeout)⟩], ⟨id, timeout, state, count, msg, wrap64 (now + timeout)⟩) by unfold Rn.handle; rw [if_pos k1, if_pos k2, if_neg k3, if_pos k4, show Rn.take ⟨id, timeout, state, count, msg, deadline⟩ p2 p3 p5 = ⟨id, timeout, state, count, msg, deadline⟩ from by unfold Rn.take; exact if_neg k5]; try rfl)
      rw [HT.out]
      clear k1 k2 k3 k4 k5
      go_enter Tryd.func34, Tryd.ntmps34
      go_wp2_with (first | ((with_reducible refine gate_dst (N := 3) rfl ?_); refine box_event ?hg (N := 3) ?hd (cs := #[.pointer (some ⟨g, 0, none⟩)]) (t := 64) ?hr ?_; (case hd => rfl); (case hg => rfl); (case hr => first | (go_simp; done) | (go_simp; rfl)); intro gr hgr w1 hbox hb; have BRa := Aside0.mk hbox; have HIa := Aside0.mk (HI.out.below hb); have HGa := Aside0.mk (blk_below HG.out hb); have HBa := Aside0.mk (hb.mono HBS.out); have HKa := Aside0.mk (KeepR.of_below hb g); clear hb hbox hgr) | ((with_reducible refine gate_dst (N := 4) rfl ?_); refine box_event ?hg (N := 4) ?hd (cs := #[.int .i64 p0, .int .i64 p1, .int .i64 p2, .bool p3, .int .i64 p4, .string p5]) (t := 23) ?hr ?_; (case hd => rfl); (case hg => rfl); (case hr => first | (go_simp; done) | (go_simp; rfl)); intro gp hgp w2 hbox hb; have BP2 := Aside0.mk hbox; have BR2 := Aside0.mk (blk_below BRa.out hb); have HI2 := Aside0.mk (HIa.out.below hb); have HG2 := Aside0.mk (blk_below HGa.out hb); have HB2 := Aside0.mk (HBa.out.trans (hb.mono (Nat.le_trans HBS.out HKa.out.size))); have HK2 := Aside0.mk (HKa.out.trans (KeepR.of_below hb g)); have HNR := Aside0.mk (blk_ne BR2.out HG2.out (by decide)); have HNP := Aside0.mk (blk_ne BP2.out HG2.out (by decide)); have cr := (blk_cell BR2.out 0).trans rfl; have c0 := (blk_cell HG2.out 0).trans rfl; have y1 := (blk_cell BP2.out 1).trans rfl; clear hb hbox hgp BRa HIa HGa HBa HKa))
      have HI3 := Aside0.mk HI2.out.drew
      have HG3 := Aside0.mk (blk_drew HG2.out)
      have BR3 := Aside0.mk (blk_drew BR2.out)
      have BP3 := Aside0.mk (blk_drew BP2.out)
      have HB3 := Aside0.mk HB2.out.drew
      have HK3 := Aside0.mk HK2.out.drew
      refine start_ (n := 7) (S := fun w' => w'.cell? ⟨gp, 1, none⟩ = some (.int .i64 p1) ∧ w'.cell? ⟨gr, 0, none⟩ = some (.pointer (some ⟨g, 0, none⟩)) ∧ w'.cell? ⟨g, 0, none⟩ = some (.int .i64 id)) (ds := []) #[Yn, Yn, Yn, Yn, Yn, Yn, Yn] (by kernel_rfl) rfl rfl ⟨y1, cr, c0⟩ (fun hHeld => ?_)
      generalize w2.drew = w3 at HI3 HG3 BR3 BP3 HB3 HK3 hHeld ⊢
      refine pure_ (i := 0) (N := some 8) (v := ?_) (a' := ?_) #[Y, Yn, Yn, Yn, Yn, Yn, Yn] rfl rfl (by kernel_rfl) (fun _ _ _ h => h) (Or.inl ⟨by rfl, ?_⟩) ?_ ?_
      rotate_left
      ·intro w'
       go_simp
       with_reducible rfl
      rotate_left
      ·simp only [Act.put, List.setIfInBounds_toArray, List.set_cons_zero, List.set_cons_succ, i64_w, i32_w]
       rfl
      refine take_ (i := 1) (N := some 9) (v := ?_) (a' := ?_) #[Y, Y, Yn, Yn, Yn, Yn, Yn] rfl rfl (by kernel_rfl) (fun _ _ _ h => h) (Or.inl ⟨by rfl, ?_⟩) hHeld ?_ ?_
      rotate_left
      ·rintro w' ⟨s0, s1, s2⟩
       go_simp
       with_reducible rfl
      rotate_left
      ·simp only [Act.put, List.setIfInBounds_toArray, List.set_cons_zero, List.set_cons_succ, i64_w, i32_w]
       rfl
      refine take_ (i := 2) (N := some 10) (v := ?_) (a' := ?_) #[Y, Y, Y, Yn, Yn, Yn, Yn] rfl rfl (by kernel_rfl) (fun _ _ _ h => h) (Or.inl ⟨by rfl, ?_⟩) hHeld ?_ ?_
      rotate_left
      ·rintro w' ⟨s0, s1, s2⟩
       go_simp
       with_reducible rfl
      rotate_left
      ·simp only [Act.put, List.setIfInBounds_toArray, List.set_cons_zero, List.set_cons_succ, i64_w, i32_w]
       rfl
      refine pure_ (i := 3) (N := some 11) (v := ?_) (a' := ?_) #[Y, Y, Y, Y, Yn, Yn, Yn] rfl rfl (by kernel_rfl) (fun _ _ _ h => h) (Or.inl ⟨by rfl, ?_⟩) ?_ ?_
      rotate_left
      ·intro w'
       go_simp
       with_reducible rfl
      rotate_left
      ·simp only [Act.put, List.setIfInBounds_toArray, List.set_cons_zero, List.set_cons_succ, i64_w, i32_w]
       rfl
      refine pure_ (i := 4) (N := some 12) (v := ?_) (a' := ?_) #[Y, Y, Y, Y, Y, Yn, Yn] rfl rfl (by kernel_rfl) (fun _ _ _ h => h) (Or.inl ⟨by rfl, ?_⟩) ?_ ?_
      rotate_left
      ·intro w'
       go_simp
       with_reducible rfl
      rotate_left
      ·simp only [Act.put, List.setIfInBounds_toArray, List.set_cons_zero, List.set_cons_succ, i64_w, i32_w]
       rfl
      refine take_ (i := 5) (N := some 13) (v := ?_) (a' := ?_) #[Y, Y, Y, Y, Y, Y, Yn] rfl rfl (by kernel_rfl) (fun _ _ _ h => h) (Or.inl ⟨by rfl, ?_⟩) hHeld ?_ ?_
      rotate_left
      ·rintro w' ⟨s0, s1, s2⟩
       go_simp
       with_reducible rfl
      rotate_left
      ·simp only [Act.put, List.setIfInBounds_toArray, List.set_cons_zero, List.set_cons_succ, i64_w, i32_w]
       rfl
      refine pure_ (i := 6) (N := some 14) (v := ?_) (a' := ?_) #[Y, Y, Y, Y, Y, Y, Y] rfl rfl (by kernel_rfl) (fun _ _ _ h => h) (Or.inl ⟨by rfl, ?_⟩) ?_ ?_
      rotate_left
      ·intro w'
       go_simp
       with_reducible rfl
      rotate_left
      ·simp only [Act.put, List.setIfInBounds_toArray, List.set_cons_zero, List.set_cons_succ, i64_w, i32_w]
       rfl
      refine done_ (by kernel_rfl) ?_
      clear cr c0 y1 hHeld
      have cr := (blk_cell BR3.out 0).trans rfl
      have y0 := (blk_cell BP3.out 0).trans rfl
      have c2 := (blk_cell HG3.out 2).trans rfl
      have y2 := (blk_cell BP3.out 2).trans rfl
      have c3 := (blk_cell HG3.out 3).trans rfl
      go_wp2
      have HI4 := Aside0.mk HI3.out.drew
      have HG4 := Aside0.mk (blk_drew HG3.out)
      have BR4 := Aside0.mk (blk_drew BR3.out)
      have BP4 := Aside0.mk (blk_drew BP3.out)
      have HB4 := Aside0.mk HB3.out.drew
      have HK4 := Aside0.mk HK3.out.drew
      refine start_ (n := 7) (S := fun w' => w'.cell? ⟨gp, 2, none⟩ = some (.int .i64 p2) ∧ w'.cell? ⟨gr, 0, none⟩ = some (.pointer (some ⟨g, 0, none⟩)) ∧ w'.cell? ⟨g, 3, none⟩ = some (.int .i64 count)) (ds := []) #[Yn, Yn, Yn, Yn, Yn, Yn, Yn] (by kernel_rfl) rfl rfl ⟨y2, cr, c3⟩ (fun hHeld => ?_)
      generalize w3.drew = w4 at HI4 HG4 BR4 BP4 HB4 HK4 hHeld ⊢
      refine pure_ (i := 0) (N := some 40) (v := ?_) (a' := ?_) #[Y, Yn, Yn, Yn, Yn, Yn, Yn] rfl rfl (by kernel_rfl) (fun _ _ _ h => h) (Or.inl ⟨by rfl, ?_⟩) ?_ ?_
      rotate_left
      ·intro w'
       go_simp
       with_reducible rfl
      rotate_left
      ·simp only [Act.put, List.setIfInBounds_toArray, List.set_cons_zero, List.set_cons_succ, i64_w, i32_w]
       rfl
      refine take_ (i := 1) (N := some 41) (v := ?_) (a' := ?_) #[Y, Y, Yn, Yn, Yn, Yn, Yn] rfl rfl (by kernel_rfl) (fun _ _ _ h => h) (Or.inl ⟨by rfl, ?_⟩) hHeld ?_ ?_
      rotate_left
      ·rintro w' ⟨s0, s1, s2⟩
       go_simp
       with_reducible rfl
      rotate_left
      ·simp only [Act.put, List.setIfInBounds_toArray, List.set_cons_zero, List.set_cons_succ, i64_w, i32_w]
       rfl
      refine take_ (i := 2) (N := some 42) (v := ?_) (a' := ?_) #[Y, Y, Y, Yn, Yn, Yn, Yn] rfl rfl (by kernel_rfl) (fun _ _ _ h => h) (Or.inl ⟨by rfl, ?_⟩) hHeld ?_ ?_
      rotate_left
      ·rintro w' ⟨s0, s1, s2⟩
       go_simp
       with_reducible rfl
      rotate_left
      ·simp only [Act.put, List.setIfInBounds_toArray, List.set_cons_zero, List.set_cons_succ, i64_w, i32_w]
       rfl
      refine pure_ (i := 3) (N := some 43) (v := ?_) (a' := ?_) #[Y, Y, Y, Y, Yn, Yn, Yn] rfl rfl (by kernel_rfl) (fun _ _ _ h => h) (Or.inl ⟨by rfl, ?_⟩) ?_ ?_
      rotate_left
      ·intro w'
       go_simp
       with_reducible rfl
      rotate_left
      ·simp only [Act.put, List.setIfInBounds_toArray, List.set_cons_zero, List.set_cons_succ, i64_w, i32_w]
       rfl
      refine pure_ (i := 4) (N := some 44) (v := ?_) (a' := ?_) #[Y, Y, Y, Y, Y, Yn, Yn] rfl rfl (by kernel_rfl) (fun _ _ _ h => h) (Or.inl ⟨by rfl, ?_⟩) ?_ ?_
      rotate_left
      ·intro w'
       go_simp
       with_reducible rfl
      rotate_left
      ·simp only [Act.put, List.setIfInBounds_toArray, List.set_cons_zero, List.set_cons_succ, i64_w, i32_w]
       rfl
      refine take_ (i := 5) (N := some 45) (v := ?_) (a' := ?_) #[Y, Y, Y, Y, Y, Y, Yn] rfl rfl (by kernel_rfl) (fun _ _ _ h => h) (Or.inl ⟨by rfl, ?_⟩) hHeld ?_ ?_
      rotate_left
      ·rintro w' ⟨s0, s1, s2⟩
       go_simp
       with_reducible rfl
      rotate_left
      ·simp only [Act.put, List.setIfInBounds_toArray, List.set_cons_zero, List.set_cons_succ, i64_w, i32_w]
       rfl
      refine pure_ (i := 6) (N := some 46) (v := ?_) (a' := ?_) #[Y, Y, Y, Y, Y, Y, Y] rfl rfl (by kernel_rfl) (fun _ _ _ h => h) (Or.inl ⟨by rfl, ?_⟩) ?_ ?_
      rotate_left
      ·intro w'
       go_simp
       with_reducible rfl
      rotate_left
      ·simp only [Act.put, List.setIfInBounds_toArray, List.set_cons_zero, List.set_cons_succ, i64_w, i32_w]
       rfl
      refine done_ (by kernel_rfl) ?_
      clear cr y0 c2 y2 c3 hHeld
      have cr := (blk_cell BR4.out 0).trans rfl
      have c1 := (blk_cell HG4.out 1).trans rfl
      go_wp2
      have HI5 := Aside0.mk HI4.out.drew
      have HG5 := Aside0.mk (blk_drew HG4.out)
      have BR5 := Aside0.mk (blk_drew BR4.out)
      have BP5 := Aside0.mk (blk_drew BP4.out)
      have HB5 := Aside0.mk HB4.out.drew
      have HK5 := Aside0.mk HK4.out.drew
      refine start_ (n := 10) (S := fun w' => w'.cell? ⟨gr, 0, none⟩ = some (.pointer (some ⟨g, 0, none⟩)) ∧ w'.cell? ⟨g, 1, none⟩ = some (.int .i64 timeout)) (ds := [9]) #[Yn, Yn, Yn, Yn, Yn, Yn, Yn, Yn, Yn, Yn] (by kernel_rfl) rfl rfl ⟨cr, c1⟩ (fun hHeld => ?_)
      generalize w4.drew = w5 at HI5 HG5 BR5 BP5 HB5 HK5 hHeld ⊢
      refine pure_ (i := 1) (N := some 71) (v := ?_) (a' := ?_) #[Yn, Y, Yn, Yn, Yn, Yn, Yn, Yn, Yn, Yn] rfl rfl (by kernel_rfl) (fun _ _ _ h => h) (Or.inl ⟨by rfl, ?_⟩) ?_ ?_
      rotate_left
      ·intro w'
       go_simp
       with_reducible rfl
      rotate_left
      ·simp only [Act.put, List.setIfInBounds_toArray, List.set_cons_zero, List.set_cons_succ, i64_w, i32_w]
       rfl
      refine take_ (i := 0) (N := some 70) (v := ?_) (a' := ?_) #[Y, Y, Yn, Yn, Yn, Yn, Yn, Yn, Yn, Yn] rfl rfl (by kernel_rfl) (fun _ _ _ h => h) (Or.inl ⟨by rfl, ?_⟩) hHeld ?_ ?_
      rotate_left
      ·rintro w' ⟨s0, s1⟩
       go_simp
       with_reducible rfl
      rotate_left
      ·simp only [Act.put, List.setIfInBounds_toArray, List.set_cons_zero, List.set_cons_succ, i64_w, i32_w]
       rfl
      refine take_ (i := 2) (N := some 72) (v := ?_) (a' := ?_) #[Y, Y, Y, Yn, Yn, Yn, Yn, Yn, Yn, Yn] rfl rfl (by kernel_rfl) (fun _ _ _ h => h) (Or.inl ⟨by rfl, ?_⟩) hHeld ?_ ?_
      rotate_left
      ·rintro w' ⟨s0, s1⟩
       go_simp
       with_reducible rfl
      rotate_left
      ·simp only [Act.put, List.setIfInBounds_toArray, List.set_cons_zero, List.set_cons_succ, i64_w, i32_w]
       rfl
      refine pure_ (i := 3) (N := some 73) (v := ?_) (a' := ?_) #[Y, Y, Y, Y, Yn, Yn, Yn, Yn, Yn, Yn] rfl rfl (by kernel_rfl) (fun _ _ _ h => h) (Or.inl ⟨by rfl, ?_⟩) ?_ ?_
      rotate_left
      ·intro w'
       go_simp
       with_reducible rfl
      rotate_left
      ·simp only [Act.put, List.setIfInBounds_toArray, List.set_cons_zero, List.set_cons_succ, i64_w, i32_w]
       rfl
      refine pure_ (i := 4) (N := some 74) (v := ?_) (a' := ?_) #[Y, Y, Y, Y, Y, Yn, Yn, Yn, Yn, Yn] rfl rfl (by kernel_rfl) (fun _ _ _ h => h) (Or.inl ⟨by rfl, ?_⟩) ?_ ?_
      rotate_left
      ·intro w'
       go_simp
       with_reducible rfl
      rotate_left
      ·simp only [Act.put, List.setIfInBounds_toArray, List.set_cons_zero, List.set_cons_succ, i64_w, i32_w]
       rfl
      refine take_ (i := 5) (N := some 75) (v := ?_) (a' := ?_) #[Y, Y, Y, Y, Y, Y, Yn, Yn, Yn, Yn] rfl rfl (by kernel_rfl) (fun _ _ _ h => h) (Or.inl ⟨by rfl, ?_⟩) hHeld ?_ ?_
      rotate_left
      ·rintro w' ⟨s0, s1⟩
       go_simp
       with_reducible rfl
      rotate_left
      ·simp only [Act.put, List.setIfInBounds_toArray, List.set_cons_zero, List.set_cons_succ, i64_w, i32_w]
       rfl
      refine pure_ (i := 6) (N := some 76) (v := ?_) (a' := ?_) #[Y, Y, Y, Y, Y, Y, Y, Yn, Yn, Yn] rfl rfl (by kernel_rfl) (fun _ _ _ h => h) (Or.inl ⟨by rfl, ?_⟩) ?_ ?_
      rotate_left
      ·intro w'
       go_simp
       with_reducible rfl
      rotate_left
      ·simp only [Act.put, List.setIfInBounds_toArray, List.set_cons_zero, List.set_cons_succ, i64_w, i32_w]
       rfl
      refine pure_ (i := 7) (N := some 77) (v := ?_) (a' := ?_) #[Y, Y, Y, Y, Y, Y, Y, Y, Yn, Yn] rfl rfl (by kernel_rfl) (fun _ _ _ h => h) (Or.inl ⟨by rfl, ?_⟩) ?_ ?_
      rotate_left
      ·intro w'
       go_simp
       with_reducible rfl
      rotate_left
      ·simp only [Act.put, List.setIfInBounds_toArray, List.set_cons_zero, List.set_cons_succ, i64_w, i32_w]
       rfl
      refine pure_ (i := 8) (N := some 78) (v := ?_) (a' := ?_) #[Y, Y, Y, Y, Y, Y, Y, Y, Y, Yn] rfl rfl (by kernel_rfl) (fun _ _ _ h => h) (Or.inl ⟨by rfl, ?_⟩) ?_ ?_
      rotate_left
      ·intro w'
       go_simp
       with_reducible rfl
      rotate_left
      ·simp only [Act.put, List.setIfInBounds_toArray, List.set_cons_zero, List.set_cons_succ, i64_w, i32_w]
       rfl
      refine last_ (i := 9) (N := none) #[Y, Y, Y, Y, Y, Y, Y, Y, Y, Y] rfl rfl (by kernel_rfl) (by decide) (fun K hK => ?_)
      have f5 := blk_frozen HG5.out 5
      have c5 := (blk_cell HG5.out 5).trans rfl
      refine skip_ (w1 := ?_) (by rfl) rfl ?_ ?_
      rotate_left
      ·go_simp
       rfl
      refine hK.out _ _ ?_
      clear hK K
      refine done_ (by kernel_rfl) ?_
      have HI6 := Aside0.mk (HI5.out.set_deadline (wrap64 (now + timeout)))
      have HG6 := Aside0.mk (blk_put HG5.out 5 (.int .i64 (wrap64 (now + timeout))) rfl)
      have BR6 := Aside0.mk (blk_far BR5.out (p := ⟨g, 5, none⟩) HNR.out (.int .i64 (wrap64 (now + timeout))))
      have BP6 := Aside0.mk (blk_far BP5.out (p := ⟨g, 5, none⟩) HNP.out (.int .i64 (wrap64 (now + timeout))))
      have HB6 := Aside0.mk (HB5.out.setCell (p := ⟨g, 5, none⟩) HGE.out (.int .i64 (wrap64 (now + timeout))))
      have HK6 := Aside0.mk (HK5.out.set 5 (.int .i64 (wrap64 (now + timeout))))
      generalize w5.setCell ⟨g, 5, none⟩ (.int .i64 (wrap64 (now + timeout))) = w6 at HI6 HG6 BR6 BP6 HB6 HK6 ⊢
      clear cr c1 f5 c5 hHeld
      have cr := (blk_cell BR6.out 0).trans rfl
      have c0 := (blk_cell HG6.out 0).trans rfl
      have c3 := (blk_cell HG6.out 3).trans rfl
      go_wp2
      have HI7 := Aside0.mk HI6.out.drew
      have HG7 := Aside0.mk (blk_drew HG6.out)
      have BR7 := Aside0.mk (blk_drew BR6.out)
      have BP7 := Aside0.mk (blk_drew BP6.out)
      have HB7 := Aside0.mk HB6.out.drew
      have HK7 := Aside0.mk HK6.out.drew
      refine start_ (n := 12) (S := fun w' => w'.cell? ⟨gr, 0, none⟩ = some (.pointer (some ⟨g, 0, none⟩)) ∧ w'.cell? ⟨g, 0, none⟩ = some (.int .i64 id) ∧ w'.cell? ⟨g, 3, none⟩ = some (.int .i64 count)) (ds := []) #[Yn, Yn, Yn, Yn, Yn, Yn, Yn, Yn, Yn, Yn, Yn, Yn] (by kernel_rfl) rfl rfl ⟨cr, c0, c3⟩ (fun hHeld => ?_)
      generalize w6.drew = w7 at HI7 HG7 BR7 BP7 HB7 HK7 hHeld ⊢
      refine take_ (i := 0) (N := some 2) (v := ?_) (a' := ?_) #[Y, Yn, Yn, Yn, Yn, Yn, Yn, Yn, Yn, Yn, Yn, Yn] rfl rfl (by kernel_rfl) (fun _ _ _ h => h) (Or.inl ⟨by rfl, ?_⟩) hHeld ?_ ?_
      rotate_left
      ·rintro w' ⟨s0, s1, s2⟩
       go_simp
       with_reducible rfl
      rotate_left
      ·simp only [Act.put, List.setIfInBounds_toArray, List.set_cons_zero, List.set_cons_succ, i64_w, i32_w]
       rfl
      refine pure_ (i := 1) (N := some 3) (v := ?_) (a' := ?_) #[Y, Y, Yn, Yn, Yn, Yn, Yn, Yn, Yn, Yn, Yn, Yn] rfl rfl (by kernel_rfl) (fun _ _ _ h => h) (Or.inl ⟨by rfl, ?_⟩) ?_ ?_
      rotate_left
      ·intro w'
       go_simp
       with_reducible rfl
      rotate_left
      ·simp only [Act.put, List.setIfInBounds_toArray, List.set_cons_zero, List.set_cons_succ, i64_w, i32_w]
       rfl
      refine pure_ (i := 2) (N := some 4) (v := ?_) (a' := ?_) #[Y, Y, Y, Yn, Yn, Yn, Yn, Yn, Yn, Yn, Yn, Yn] rfl rfl (by kernel_rfl) (fun _ _ _ h => h) (Or.inl ⟨by rfl, ?_⟩) ?_ ?_
      rotate_left
      ·intro w'
       go_simp
       with_reducible rfl
      rotate_left
      ·simp only [Act.put, List.setIfInBounds_toArray, List.set_cons_zero, List.set_cons_succ, i64_w, i32_w]
       rfl
      refine take_ (i := 3) (N := some 5) (v := ?_) (a' := ?_) #[Y, Y, Y, Y, Yn, Yn, Yn, Yn, Yn, Yn, Yn, Yn] rfl rfl (by kernel_rfl) (fun _ _ _ h => h) (Or.inl ⟨by rfl, ?_⟩) hHeld ?_ ?_
      rotate_left
      ·rintro w' ⟨s0, s1, s2⟩
       go_simp
       with_reducible rfl
      rotate_left
      ·simp only [Act.put, List.setIfInBounds_toArray, List.set_cons_zero, List.set_cons_succ, i64_w, i32_w]
       rfl
      refine take_ (i := 4) (N := some 6) (v := ?_) (a' := ?_) #[Y, Y, Y, Y, Y, Yn, Yn, Yn, Yn, Yn, Yn, Yn] rfl rfl (by kernel_rfl) (fun _ _ _ h => h) (Or.inl ⟨by rfl, ?_⟩) hHeld ?_ ?_
      rotate_left
      ·rintro w' ⟨s0, s1, s2⟩
       go_simp
       with_reducible rfl
      rotate_left
      ·simp only [Act.put, List.setIfInBounds_toArray, List.set_cons_zero, List.set_cons_succ, i64_w, i32_w]
       rfl
      refine pure_ (i := 5) (N := some 7) (v := ?_) (a' := ?_) #[Y, Y, Y, Y, Y, Y, Yn, Yn, Yn, Yn, Yn, Yn] rfl rfl (by kernel_rfl) (fun _ _ _ h => h) (Or.inl ⟨by rfl, ?_⟩) ?_ ?_
      rotate_left
      ·intro w'
       go_simp
       with_reducible rfl
      rotate_left
      ·simp only [Act.put, List.setIfInBounds_toArray, List.set_cons_zero, List.set_cons_succ, i64_w, i32_w]
       rfl
      refine pure_ (i := 6) (N := some 8) (v := ?_) (a' := ?_) #[Y, Y, Y, Y, Y, Y, Y, Yn, Yn, Yn, Yn, Yn] rfl rfl (by kernel_rfl) (fun _ _ _ h => h) (Or.inl ⟨by rfl, ?_⟩) ?_ ?_
      rotate_left
      ·intro w'
       go_simp
       with_reducible rfl
      rotate_left
      ·simp only [Act.put, List.setIfInBounds_toArray, List.set_cons_zero, List.set_cons_succ, i64_w, i32_w]
       rfl
      refine take_ (i := 7) (N := some 9) (v := ?_) (a' := ?_) #[Y, Y, Y, Y, Y, Y, Y, Y, Yn, Yn, Yn, Yn] rfl rfl (by kernel_rfl) (fun _ _ _ h => h) (Or.inl ⟨by rfl, ?_⟩) hHeld ?_ ?_
      rotate_left
      ·rintro w' ⟨s0, s1, s2⟩
       go_simp
       with_reducible rfl
      rotate_left
      ·simp only [Act.put, List.setIfInBounds_toArray, List.set_cons_zero, List.set_cons_succ, i64_w, i32_w]
       rfl
      refine pure_ (i := 8) (N := some 10) (v := ?_) (a' := ?_) #[Y, Y, Y, Y, Y, Y, Y, Y, Y, Yn, Yn, Yn] rfl rfl (by kernel_rfl) (fun _ _ _ h => h) (Or.inl ⟨by rfl, ?_⟩) ?_ ?_
      rotate_left
      ·intro w'
       go_simp
       with_reducible rfl
      rotate_left
      ·simp only [Act.put, List.setIfInBounds_toArray, List.set_cons_zero, List.set_cons_succ, i64_w, i32_w]
       rfl
      refine pure_ (i := 9) (N := some 11) (v := ?_) (a' := ?_) #[Y, Y, Y, Y, Y, Y, Y, Y, Y, Y, Yn, Yn] rfl rfl (by kernel_rfl) (fun _ _ _ h => h) (Or.inl ⟨by rfl, ?_⟩) ?_ ?_
      rotate_left
      ·intro w'
       go_simp
       with_reducible rfl
      rotate_left
      ·simp only [Act.put, List.setIfInBounds_toArray, List.set_cons_zero, List.set_cons_succ, i64_w, i32_w]
       rfl
      refine one_ (i := 10) (N := some 12) #[Y, Y, Y, Y, Y, Y, Y, Y, Y, Y, Y, Yn] rfl rfl (by kernel_rfl) (by decide) (fun K hK => ?_)
      refine value_ (w1 := ?_) (v := ?_) (by rfl) rfl ?_ ?_
      rotate_left 2
      ·go_simp
       constructor
       ·rfl
       ·rfl
      refine hK.out _ _ ⟨(blk_cell (by (with_reducible repeat (first | refine blk_drewN ?_ _ | refine blk_drew ?_ | refine blk_alloc ?_ _)); exact BR7.out) 0).trans rfl, (blk_cell (by (with_reducible repeat (first | refine blk_drewN ?_ _ | refine blk_drew ?_ | refine blk_alloc ?_ _)); exact HG7.out) 0).trans rfl, (blk_cell (by (with_reducible repeat (first | refine blk_drewN ?_ _ | refine blk_drew ?_ | refine blk_alloc ?_ _)); exact HG7.out) 3).trans rfl⟩ (fun hHeld => ?_)
      clear hK K
      refine norm_ (a' := ?_) ?_ ?_
      rotate_left
      ·show Act.put _ (some 12) _ = _
       simp only [Act.put, List.setIfInBounds_toArray, List.set_cons_zero, List.set_cons_succ, i64_w, i32_w]
       rfl
      refine pure_ (i := 11) (N := some 1) (v := ?_) (a' := ?_) #[Y, Y, Y, Y, Y, Y, Y, Y, Y, Y, Y, Y] rfl rfl (by kernel_rfl) (fun _ _ _ h => h) (Or.inl ⟨by rfl, ?_⟩) ?_ ?_
      rotate_left
      ·intro w'
       go_simp
       with_reducible rfl
      rotate_left
      ·simp only [Act.put, List.setIfInBounds_toArray, List.set_cons_zero, List.set_cons_succ, i64_w, i32_w]
       rfl
      refine done_ (by kernel_rfl) ?_
      go_wp2
      go_ret
      exact ⟨_, rfl, V_one23 (Rn.ack ⟨id, timeout, state, count, msg, wrap64 (now + timeout)⟩) _ rfl HK7.out.size, (by first | exact HI7.out.alloc _ | (rw [HMS.out]; exact HI7.out.alloc _)), HB7.out.alloc (Nat.le_trans HBS.out HK7.out.size) _, HK7.out.alloc _⟩
    ·have k4b : (state == 0) = false := beq_false_of_ne k4
     have HT := Aside0.mk (show Rn.handle ⟨id, timeout, state, count, msg, deadline⟩ p0 p1 p2 p3 p5 now = ([], ⟨id, timeout, state, count, msg, deadline⟩) by unfold Rn.handle; rw [if_pos k1, if_pos k2, if_neg k3, if_neg k4]; try rfl)
     rw [HT.out]
     clear k1 k2 k3 k4
     go_enter Tryd.func34, Tryd.ntmps34
     go_wp2_with (first | ((with_reducible refine gate_dst (N := 3) rfl ?_); refine box_event ?hg (N := 3) ?hd (cs := #[.pointer (some ⟨g, 0, none⟩)]) (t := 64) ?hr ?_; (case hd => rfl); (case hg => rfl); (case hr => first | (go_simp; done) | (go_simp; rfl)); intro gr hgr w1 hbox hb; have BRa := Aside0.mk hbox; have HIa := Aside0.mk (HI.out.below hb); have HGa := Aside0.mk (blk_below HG.out hb); have HBa := Aside0.mk (hb.mono HBS.out); have HKa := Aside0.mk (KeepR.of_below hb g); clear hb hbox hgr) | ((with_reducible refine gate_dst (N := 4) rfl ?_); refine box_event ?hg (N := 4) ?hd (cs := #[.int .i64 p0, .int .i64 p1, .int .i64 p2, .bool p3, .int .i64 p4, .string p5]) (t := 23) ?hr ?_; (case hd => rfl); (case hg => rfl); (case hr => first | (go_simp; done) | (go_simp; rfl)); intro gp hgp w2 hbox hb; have BP2 := Aside0.mk hbox; have BR2 := Aside0.mk (blk_below BRa.out hb); have HI2 := Aside0.mk (HIa.out.below hb); have HG2 := Aside0.mk (blk_below HGa.out hb); have HB2 := Aside0.mk (HBa.out.trans (hb.mono (Nat.le_trans HBS.out HKa.out.size))); have HK2 := Aside0.mk (HKa.out.trans (KeepR.of_below hb g)); have HNR := Aside0.mk (blk_ne BR2.out HG2.out (by decide)); have HNP := Aside0.mk (blk_ne BP2.out HG2.out (by decide)); have cr := (blk_cell BR2.out 0).trans rfl; have c0 := (blk_cell HG2.out 0).trans rfl; have y1 := (blk_cell BP2.out 1).trans rfl; clear hb hbox hgp BRa HIa HGa HBa HKa))
     have HI3 := Aside0.mk HI2.out.drew
     have HG3 := Aside0.mk (blk_drew HG2.out)
     have BR3 := Aside0.mk (blk_drew BR2.out)
     have BP3 := Aside0.mk (blk_drew BP2.out)
     have HB3 := Aside0.mk HB2.out.drew
     have HK3 := Aside0.mk HK2.out.drew
     refine start_ (n := 7) (S := fun w' => w'.cell? ⟨gp, 1, none⟩ = some (.int .i64 p1) ∧ w'.cell? ⟨gr, 0, none⟩ = some (.pointer (some ⟨g, 0, none⟩)) ∧ w'.cell? ⟨g, 0, none⟩ = some (.int .i64 id)) (ds := []) #[Yn, Yn, Yn, Yn, Yn, Yn, Yn] (by kernel_rfl) rfl rfl ⟨y1, cr, c0⟩ (fun hHeld => ?_)
     generalize w2.drew = w3 at HI3 HG3 BR3 BP3 HB3 HK3 hHeld ⊢
     refine pure_ (i := 0) (N := some 8) (v := ?_) (a' := ?_) #[Y, Yn, Yn, Yn, Yn, Yn, Yn] rfl rfl (by kernel_rfl) (fun _ _ _ h => h) (Or.inl ⟨by rfl, ?_⟩) ?_ ?_
     rotate_left
     ·intro w'
      go_simp
      with_reducible rfl
     rotate_left
     ·simp only [Act.put, List.setIfInBounds_toArray, List.set_cons_zero, List.set_cons_succ, i64_w, i32_w]
      rfl
     refine take_ (i := 1) (N := some 9) (v := ?_) (a' := ?_) #[Y, Y, Yn, Yn, Yn, Yn, Yn] rfl rfl (by kernel_rfl) (fun _ _ _ h => h) (Or.inl ⟨by rfl, ?_⟩) hHeld ?_ ?_
     rotate_left
     ·rintro w' ⟨s0, s1, s2⟩
      go_simp
      with_reducible rfl
     rotate_left
     ·simp only [Act.put, List.setIfInBounds_toArray, List.set_cons_zero, List.set_cons_succ, i64_w, i32_w]
      rfl
     refine take_ (i := 2) (N := some 10) (v := ?_) (a' := ?_) #[Y, Y, Y, Yn, Yn, Yn, Yn] rfl rfl (by kernel_rfl) (fun _ _ _ h => h) (Or.inl ⟨by rfl, ?_⟩) hHeld ?_ ?_
     rotate_left
     ·rintro w' ⟨s0, s1, s2⟩
      go_simp
      with_reducible rfl
     rotate_left
     ·simp only [Act.put, List.setIfInBounds_toArray, List.set_cons_zero, List.set_cons_succ, i64_w, i32_w]
      rfl
     refine pure_ (i := 3) (N := some 11) (v := ?_) (a' := ?_) #[Y, Y, Y, Y, Yn, Yn, Yn] rfl rfl (by kernel_rfl) (fun _ _ _ h => h) (Or.inl ⟨by rfl, ?_⟩) ?_ ?_
     rotate_left
     ·intro w'
      go_simp
      with_reducible rfl
     rotate_left
     ·simp only [Act.put, List.setIfInBounds_toArray, List.set_cons_zero, List.set_cons_succ, i64_w, i32_w]
      rfl
     refine pure_ (i := 4) (N := some 12) (v := ?_) (a' := ?_) #[Y, Y, Y, Y, Y, Yn, Yn] rfl rfl (by kernel_rfl) (fun _ _ _ h => h) (Or.inl ⟨by rfl, ?_⟩) ?_ ?_
     rotate_left
     ·intro w'
      go_simp
      with_reducible rfl
     rotate_left
     ·simp only [Act.put, List.setIfInBounds_toArray, List.set_cons_zero, List.set_cons_succ, i64_w, i32_w]
      rfl
     refine take_ (i := 5) (N := some 13) (v := ?_) (a' := ?_) #[Y, Y, Y, Y, Y, Y, Yn] rfl rfl (by kernel_rfl) (fun _ _ _ h => h) (Or.inl ⟨by rfl, ?_⟩) hHeld ?_ ?_
     rotate_left
     ·rintro w' ⟨s0, s1, s2⟩
      go_simp
      with_reducible rfl
     rotate_left
     ·simp only [Act.put, List.setIfInBounds_toArray, List.set_cons_zero, List.set_cons_succ, i64_w, i32_w]
      rfl
     refine pure_ (i := 6) (N := some 14) (v := ?_) (a' := ?_) #[Y, Y, Y, Y, Y, Y, Y] rfl rfl (by kernel_rfl) (fun _ _ _ h => h) (Or.inl ⟨by rfl, ?_⟩) ?_ ?_
     rotate_left
     ·intro w'
      go_simp
      with_reducible rfl
     rotate_left
     ·simp only [Act.put, List.setIfInBounds_toArray, List.set_cons_zero, List.set_cons_succ, i64_w, i32_w]
      rfl
     refine done_ (by kernel_rfl) ?_
     clear cr c0 y1 hHeld
     have cr := (blk_cell BR3.out 0).trans rfl
     have y0 := (blk_cell BP3.out 0).trans rfl
     have c2 := (blk_cell HG3.out 2).trans rfl
     go_wp2
     go_ret
     exact ⟨_, rfl, FV.nil k23 23 _ _, HI3.out, HB3.out, HK3.out⟩
  ·have k2b : (p0 == 1) = false := beq_false_of_ne k2
   by_cases k7 : p0 = 3
   ·have k7b : (p0 == 3) = true := by rw [k7]; rfl
    by_cases k4 : state = 0
    ·have k4b : (state == 0) = true := by rw [k4]; rfl
     have HT := Aside0.mk (show Rn.handle ⟨id, timeout, state, count, msg, deadline⟩ p0 p1 p2 p3 p5 now = ([], ⟨id, timeout, 2, count, msg, deadline⟩) by unfold Rn.handle; rw [if_pos k1, if_neg k2, if_pos k7, if_pos k4]; try rfl)
     rw [HT.out]
     clear k1 k2 k4 k7
     go_enter Tryd.func34, Tryd.ntmps34
     go_wp2_with (first | ((with_reducible refine gate_dst (N := 3) rfl ?_); refine box_event ?hg (N := 3) ?hd (cs := #[.pointer (some ⟨g, 0, none⟩)]) (t := 64) ?hr ?_; (case hd => rfl); (case hg => rfl); (case hr => first | (go_simp; done) | (go_simp; rfl)); intro gr hgr w1 hbox hb; have BRa := Aside0.mk hbox; have HIa := Aside0.mk (HI.out.below hb); have HGa := Aside0.mk (blk_below HG.out hb); have HBa := Aside0.mk (hb.mono HBS.out); have HKa := Aside0.mk (KeepR.of_below hb g); clear hb hbox hgr) | ((with_reducible refine gate_dst (N := 4) rfl ?_); refine box_event ?hg (N := 4) ?hd (cs := #[.int .i64 p0, .int .i64 p1, .int .i64 p2, .bool p3, .int .i64 p4, .string p5]) (t := 23) ?hr ?_; (case hd => rfl); (case hg => rfl); (case hr => first | (go_simp; done) | (go_simp; rfl)); intro gp hgp w2 hbox hb; have BP2 := Aside0.mk hbox; have BR2 := Aside0.mk (blk_below BRa.out hb); have HI2 := Aside0.mk (HIa.out.below hb); have HG2 := Aside0.mk (blk_below HGa.out hb); have HB2 := Aside0.mk (HBa.out.trans (hb.mono (Nat.le_trans HBS.out HKa.out.size))); have HK2 := Aside0.mk (HKa.out.trans (KeepR.of_below hb g)); have HNR := Aside0.mk (blk_ne BR2.out HG2.out (by decide)); have HNP := Aside0.mk (blk_ne BP2.out HG2.out (by decide)); have cr := (blk_cell BR2.out 0).trans rfl; have c0 := (blk_cell HG2.out 0).trans rfl; have y1 := (blk_cell BP2.out 1).trans rfl; clear hb hbox hgp BRa HIa HGa HBa HKa))
     have HI3 := Aside0.mk HI2.out.drew
     have HG3 := Aside0.mk (blk_drew HG2.out)
     have BR3 := Aside0.mk (blk_drew BR2.out)
     have BP3 := Aside0.mk (blk_drew BP2.out)
     have HB3 := Aside0.mk HB2.out.drew
     have HK3 := Aside0.mk HK2.out.drew
     refine start_ (n := 7) (S := fun w' => w'.cell? ⟨gp, 1, none⟩ = some (.int .i64 p1) ∧ w'.cell? ⟨gr, 0, none⟩ = some (.pointer (some ⟨g, 0, none⟩)) ∧ w'.cell? ⟨g, 0, none⟩ = some (.int .i64 id)) (ds := []) #[Yn, Yn, Yn, Yn, Yn, Yn, Yn] (by kernel_rfl) rfl rfl ⟨y1, cr, c0⟩ (fun hHeld => ?_)
     generalize w2.drew = w3 at HI3 HG3 BR3 BP3 HB3 HK3 hHeld ⊢
     refine pure_ (i := 0) (N := some 8) (v := ?_) (a' := ?_) #[Y, Yn, Yn, Yn, Yn, Yn, Yn] rfl rfl (by kernel_rfl) (fun _ _ _ h => h) (Or.inl ⟨by rfl, ?_⟩) ?_ ?_
     rotate_left
     ·intro w'
      go_simp
      with_reducible rfl
     rotate_left
     ·simp only [Act.put, List.setIfInBounds_toArray, List.set_cons_zero, List.set_cons_succ, i64_w, i32_w]
      rfl
     refine take_ (i := 1) (N := some 9) (v := ?_) (a' := ?_) #[Y, Y, Yn, Yn, Yn, Yn, Yn] rfl rfl (by kernel_rfl) (fun _ _ _ h => h) (Or.inl ⟨by rfl, ?_⟩) hHeld ?_ ?_
     rotate_left
     ·rintro w' ⟨s0, s1, s2⟩
      go_simp
      with_reducible rfl
     rotate_left
     ·simp only [Act.put, List.setIfInBounds_toArray, List.set_cons_zero, List.set_cons_succ, i64_w, i32_w]
      rfl
     refine take_ (i := 2) (N := some 10) (v := ?_) (a' := ?_) #[Y, Y, Y, Yn, Yn, Yn, Yn] rfl rfl (by kernel_rfl) (fun _ _ _ h => h) (Or.inl ⟨by rfl, ?_⟩) hHeld ?_ ?_
     rotate_left
     ·rintro w' ⟨s0, s1, s2⟩
      go_simp
      with_reducible rfl
     rotate_left
     ·simp only [Act.put, List.setIfInBounds_toArray, List.set_cons_zero, List.set_cons_succ, i64_w, i32_w]
      rfl
     refine pure_ (i := 3) (N := some 11) (v := ?_) (a' := ?_) #[Y, Y, Y, Y, Yn, Yn, Yn] rfl rfl (by kernel_rfl) (fun _ _ _ h => h) (Or.inl ⟨by rfl, ?_⟩) ?_ ?_
     rotate_left
     ·intro w'
      go_simp
      with_reducible rfl
     rotate_left
     ·simp only [Act.put, List.setIfInBounds_toArray, List.set_cons_zero, List.set_cons_succ, i64_w, i32_w]
      rfl
     refine pure_ (i := 4) (N := some 12) (v := ?_) (a' := ?_) #[Y, Y, Y, Y, Y, Yn, Yn] rfl rfl (by kernel_rfl) (fun _ _ _ h => h) (Or.inl ⟨by rfl, ?_⟩) ?_ ?_
     rotate_left
     ·intro w'
      go_simp
      with_reducible rfl
     rotate_left
     ·simp only [Act.put, List.setIfInBounds_toArray, List.set_cons_zero, List.set_cons_succ, i64_w, i32_w]
      rfl
     refine take_ (i := 5) (N := some 13) (v := ?_) (a' := ?_) #[Y, Y, Y, Y, Y, Y, Yn] rfl rfl (by kernel_rfl) (fun _ _ _ h => h) (Or.inl ⟨by rfl, ?_⟩) hHeld ?_ ?_
     rotate_left
     ·rintro w' ⟨s0, s1, s2⟩
      go_simp
      with_reducible rfl
     rotate_left
     ·simp only [Act.put, List.setIfInBounds_toArray, List.set_cons_zero, List.set_cons_succ, i64_w, i32_w]
      rfl
     refine pure_ (i := 6) (N := some 14) (v := ?_) (a' := ?_) #[Y, Y, Y, Y, Y, Y, Y] rfl rfl (by kernel_rfl) (fun _ _ _ h => h) (Or.inl ⟨by rfl, ?_⟩) ?_ ?_
     rotate_left
     ·intro w'
      go_simp
      with_reducible rfl
     rotate_left
     ·simp only [Act.put, List.setIfInBounds_toArray, List.set_cons_zero, List.set_cons_succ, i64_w, i32_w]
      rfl
     refine done_ (by kernel_rfl) ?_
     clear cr c0 y1 hHeld
     have cr := (blk_cell BR3.out 0).trans rfl
     have y0 := (blk_cell BP3.out 0).trans rfl
     have c2 := (blk_cell HG3.out 2).trans rfl
     have f2 := blk_frozen HG3.out 2
     have HI4 := Aside0.mk (HI3.out.set_state 2)
     have HG4 := Aside0.mk (blk_put HG3.out 2 (.int .i64 2) rfl)
     have BR4 := Aside0.mk (blk_far BR3.out (p := ⟨g, 2, none⟩) HNR.out (.int .i64 2))
     have BP4 := Aside0.mk (blk_far BP3.out (p := ⟨g, 2, none⟩) HNP.out (.int .i64 2))
     have HB4 := Aside0.mk (HB3.out.setCell (p := ⟨g, 2, none⟩) HGE.out (.int .i64 2))
     have HK4 := Aside0.mk (HK3.out.set 2 (.int .i64 2))
     go_wp2
     go_ret
     exact ⟨_, rfl, FV.nil k23 23 _ _, HI4.out, HB4.out, HK4.out⟩
    ·have k4b : (state == 0) = false := beq_false_of_ne k4
     have HT := Aside0.mk (show Rn.handle ⟨id, timeout, state, count, msg, deadline⟩ p0 p1 p2 p3 p5 now = ([], ⟨id, timeout, state, count, msg, deadline⟩) by unfold Rn.handle; rw [if_pos k1, if_neg k2, if_pos k7, if_neg k4]; try rfl)
     rw [HT.out]
     clear k1 k2 k7 k4
     go_enter Tryd.func34, Tryd.ntmps34
     go_wp2_with (first | ((with_reducible refine gate_dst (N := 3) rfl ?_); refine box_event ?hg (N := 3) ?hd (cs := #[.pointer (some ⟨g, 0, none⟩)]) (t := 64) ?hr ?_; (case hd => rfl); (case hg => rfl); (case hr => first | (go_simp; done) | (go_simp; rfl)); intro gr hgr w1 hbox hb; have BRa := Aside0.mk hbox; have HIa := Aside0.mk (HI.out.below hb); have HGa := Aside0.mk (blk_below HG.out hb); have HBa := Aside0.mk (hb.mono HBS.out); have HKa := Aside0.mk (KeepR.of_below hb g); clear hb hbox hgr) | ((with_reducible refine gate_dst (N := 4) rfl ?_); refine box_event ?hg (N := 4) ?hd (cs := #[.int .i64 p0, .int .i64 p1, .int .i64 p2, .bool p3, .int .i64 p4, .string p5]) (t := 23) ?hr ?_; (case hd => rfl); (case hg => rfl); (case hr => first | (go_simp; done) | (go_simp; rfl)); intro gp hgp w2 hbox hb; have BP2 := Aside0.mk hbox; have BR2 := Aside0.mk (blk_below BRa.out hb); have HI2 := Aside0.mk (HIa.out.below hb); have HG2 := Aside0.mk (blk_below HGa.out hb); have HB2 := Aside0.mk (HBa.out.trans (hb.mono (Nat.le_trans HBS.out HKa.out.size))); have HK2 := Aside0.mk (HKa.out.trans (KeepR.of_below hb g)); have HNR := Aside0.mk (blk_ne BR2.out HG2.out (by decide)); have HNP := Aside0.mk (blk_ne BP2.out HG2.out (by decide)); have cr := (blk_cell BR2.out 0).trans rfl; have c0 := (blk_cell HG2.out 0).trans rfl; have y1 := (blk_cell BP2.out 1).trans rfl; clear hb hbox hgp BRa HIa HGa HBa HKa))
     have HI3 := Aside0.mk HI2.out.drew
     have HG3 := Aside0.mk (blk_drew HG2.out)
     have BR3 := Aside0.mk (blk_drew BR2.out)
     have BP3 := Aside0.mk (blk_drew BP2.out)
     have HB3 := Aside0.mk HB2.out.drew
     have HK3 := Aside0.mk HK2.out.drew
     refine start_ (n := 7) (S := fun w' => w'.cell? ⟨gp, 1, none⟩ = some (.int .i64 p1) ∧ w'.cell? ⟨gr, 0, none⟩ = some (.pointer (some ⟨g, 0, none⟩)) ∧ w'.cell? ⟨g, 0, none⟩ = some (.int .i64 id)) (ds := []) #[Yn, Yn, Yn, Yn, Yn, Yn, Yn] (by kernel_rfl) rfl rfl ⟨y1, cr, c0⟩ (fun hHeld => ?_)
     generalize w2.drew = w3 at HI3 HG3 BR3 BP3 HB3 HK3 hHeld ⊢
     refine pure_ (i := 0) (N := some 8) (v := ?_) (a' := ?_) #[Y, Yn, Yn, Yn, Yn, Yn, Yn] rfl rfl (by kernel_rfl) (fun _ _ _ h => h) (Or.inl ⟨by rfl, ?_⟩) ?_ ?_
     rotate_left
     ·intro w'
      go_simp
      with_reducible rfl
     rotate_left
     ·simp only [Act.put, List.setIfInBounds_toArray, List.set_cons_zero, List.set_cons_succ, i64_w, i32_w]
      rfl
     refine take_ (i := 1) (N := some 9) (v := ?_) (a' := ?_) #[Y, Y, Yn, Yn, Yn, Yn, Yn] rfl rfl (by kernel_rfl) (fun _ _ _ h => h) (Or.inl ⟨by rfl, ?_⟩) hHeld ?_ ?_
     rotate_left
     ·rintro w' ⟨s0, s1, s2⟩
      go_simp
      with_reducible rfl
     rotate_left
     ·simp only [Act.put, List.setIfInBounds_toArray, List.set_cons_zero, List.set_cons_succ, i64_w, i32_w]
      rfl
     refine take_ (i := 2) (N := some 10) (v := ?_) (a' := ?_) #[Y, Y, Y, Yn, Yn, Yn, Yn] rfl rfl (by kernel_rfl) (fun _ _ _ h => h) (Or.inl ⟨by rfl, ?_⟩) hHeld ?_ ?_
     rotate_left
     ·rintro w' ⟨s0, s1, s2⟩
      go_simp
      with_reducible rfl
     rotate_left
     ·simp only [Act.put, List.setIfInBounds_toArray, List.set_cons_zero, List.set_cons_succ, i64_w, i32_w]
      rfl
     refine pure_ (i := 3) (N := some 11) (v := ?_) (a' := ?_) #[Y, Y, Y, Y, Yn, Yn, Yn] rfl rfl (by kernel_rfl) (fun _ _ _ h => h) (Or.inl ⟨by rfl, ?_⟩) ?_ ?_
     rotate_left
     ·intro w'
      go_simp
      with_reducible rfl
     rotate_left
     ·simp only [Act.put, List.setIfInBounds_toArray, List.set_cons_zero, List.set_cons_succ, i64_w, i32_w]
      rfl
     refine pure_ (i := 4) (N := some 12) (v := ?_) (a' := ?_) #[Y, Y, Y, Y, Y, Yn, Yn] rfl rfl (by kernel_rfl) (fun _ _ _ h => h) (Or.inl ⟨by rfl, ?_⟩) ?_ ?_
     rotate_left
     ·intro w'
      go_simp
      with_reducible rfl
     rotate_left
     ·simp only [Act.put, List.setIfInBounds_toArray, List.set_cons_zero, List.set_cons_succ, i64_w, i32_w]
      rfl
     refine take_ (i := 5) (N := some 13) (v := ?_) (a' := ?_) #[Y, Y, Y, Y, Y, Y, Yn] rfl rfl (by kernel_rfl) (fun _ _ _ h => h) (Or.inl ⟨by rfl, ?_⟩) hHeld ?_ ?_
     rotate_left
     ·rintro w' ⟨s0, s1, s2⟩
      go_simp
      with_reducible rfl
     rotate_left
     ·simp only [Act.put, List.setIfInBounds_toArray, List.set_cons_zero, List.set_cons_succ, i64_w, i32_w]
      rfl
     refine pure_ (i := 6) (N := some 14) (v := ?_) (a' := ?_) #[Y, Y, Y, Y, Y, Y, Y] rfl rfl (by kernel_rfl) (fun _ _ _ h => h) (Or.inl ⟨by rfl, ?_⟩) ?_ ?_
     rotate_left
     ·intro w'
      go_simp
      with_reducible rfl
     rotate_left
     ·simp only [Act.put, List.setIfInBounds_toArray, List.set_cons_zero, List.set_cons_succ, i64_w, i32_w]
      rfl
     refine done_ (by kernel_rfl) ?_
     clear cr c0 y1 hHeld
     have cr := (blk_cell BR3.out 0).trans rfl
     have y0 := (blk_cell BP3.out 0).trans rfl
     have c2 := (blk_cell HG3.out 2).trans rfl
     go_wp2
     go_ret
     exact ⟨_, rfl, FV.nil k23 23 _ _, HI3.out, HB3.out, HK3.out⟩
   ·have k7b : (p0 == 3) = false := beq_false_of_ne k7
    have HT := Aside0.mk (show Rn.handle ⟨id, timeout, state, count, msg, deadline⟩ p0 p1 p2 p3 p5 now = ([], ⟨id, timeout, state, count, msg, deadline⟩) by unfold Rn.handle; rw [if_pos k1, if_neg k2, if_neg k7]; try rfl)
    rw [HT.out]
    clear k1 k2 k7
    go_enter Tryd.func34, Tryd.ntmps34
    go_wp2_with (first | ((with_reducible refine gate_dst (N := 3) rfl ?_); refine box_event ?hg (N := 3) ?hd (cs := #[.pointer (some ⟨g, 0, none⟩)]) (t := 64) ?hr ?_; (case hd => rfl); (case hg => rfl); (case hr => first | (go_simp; done) | (go_simp; rfl)); intro gr hgr w1 hbox hb; have BRa := Aside0.mk hbox; have HIa := Aside0.mk (HI.out.below hb); have HGa := Aside0.mk (blk_below HG.out hb); have HBa := Aside0.mk (hb.mono HBS.out); have HKa := Aside0.mk (KeepR.of_below hb g); clear hb hbox hgr) | ((with_reducible refine gate_dst (N := 4) rfl ?_); refine box_event ?hg (N := 4) ?hd (cs := #[.int .i64 p0, .int .i64 p1, .int .i64 p2, .bool p3, .int .i64 p4, .string p5]) (t := 23) ?hr ?_; (case hd => rfl); (case hg => rfl); (case hr => first | (go_simp; done) | (go_simp; rfl)); intro gp hgp w2 hbox hb; have BP2 := Aside0.mk hbox; have BR2 := Aside0.mk (blk_below BRa.out hb); have HI2 := Aside0.mk (HIa.out.below hb); have HG2 := Aside0.mk (blk_below HGa.out hb); have HB2 := Aside0.mk (HBa.out.trans (hb.mono (Nat.le_trans HBS.out HKa.out.size))); have HK2 := Aside0.mk (HKa.out.trans (KeepR.of_below hb g)); have HNR := Aside0.mk (blk_ne BR2.out HG2.out (by decide)); have HNP := Aside0.mk (blk_ne BP2.out HG2.out (by decide)); have cr := (blk_cell BR2.out 0).trans rfl; have c0 := (blk_cell HG2.out 0).trans rfl; have y1 := (blk_cell BP2.out 1).trans rfl; clear hb hbox hgp BRa HIa HGa HBa HKa))
    have HI3 := Aside0.mk HI2.out.drew
    have HG3 := Aside0.mk (blk_drew HG2.out)
    have BR3 := Aside0.mk (blk_drew BR2.out)
    have BP3 := Aside0.mk (blk_drew BP2.out)
    have HB3 := Aside0.mk HB2.out.drew
    have HK3 := Aside0.mk HK2.out.drew
    refine start_ (n := 7) (S := fun w' => w'.cell? ⟨gp, 1, none⟩ = some (.int .i64 p1) ∧ w'.cell? ⟨gr, 0, none⟩ = some (.pointer (some ⟨g, 0, none⟩)) ∧ w'.cell? ⟨g, 0, none⟩ = some (.int .i64 id)) (ds := []) #[Yn, Yn, Yn, Yn, Yn, Yn, Yn] (by kernel_rfl) rfl rfl ⟨y1, cr, c0⟩ (fun hHeld => ?_)
    generalize w2.drew = w3 at HI3 HG3 BR3 BP3 HB3 HK3 hHeld ⊢
    refine pure_ (i := 0) (N := some 8) (v := ?_) (a' := ?_) #[Y, Yn, Yn, Yn, Yn, Yn, Yn] rfl rfl (by kernel_rfl) (fun _ _ _ h => h) (Or.inl ⟨by rfl, ?_⟩) ?_ ?_
    rotate_left
    ·intro w'
     go_simp
     with_reducible rfl
    rotate_left
    ·simp only [Act.put, List.setIfInBounds_toArray, List.set_cons_zero, List.set_cons_succ, i64_w, i32_w]
     rfl
    refine take_ (i := 1) (N := some 9) (v := ?_) (a' := ?_) #[Y, Y, Yn, Yn, Yn, Yn, Yn] rfl rfl (by kernel_rfl) (fun _ _ _ h => h) (Or.inl ⟨by rfl, ?_⟩) hHeld ?_ ?_
    rotate_left
    ·rintro w' ⟨s0, s1, s2⟩
     go_simp
     with_reducible rfl
    rotate_left
    ·simp only [Act.put, List.setIfInBounds_toArray, List.set_cons_zero, List.set_cons_succ, i64_w, i32_w]
     rfl
    refine take_ (i := 2) (N := some 10) (v := ?_) (a' := ?_) #[Y, Y, Y, Yn, Yn, Yn, Yn] rfl rfl (by kernel_rfl) (fun _ _ _ h => h) (Or.inl ⟨by rfl, ?_⟩) hHeld ?_ ?_
    rotate_left
    ·rintro w' ⟨s0, s1, s2⟩
     go_simp
     with_reducible rfl
    rotate_left
    ·simp only [Act.put, List.setIfInBounds_toArray, List.set_cons_zero, List.set_cons_succ, i64_w, i32_w]
     rfl
    refine pure_ (i := 3) (N := some 11) (v := ?_) (a' := ?_) #[Y, Y, Y, Y, Yn, Yn, Yn] rfl rfl (by kernel_rfl) (fun _ _ _ h => h) (Or.inl ⟨by rfl, ?_⟩) ?_ ?_
    rotate_left
    ·intro w'
     go_simp
     with_reducible rfl
    rotate_left
    ·simp only [Act.put, List.setIfInBounds_toArray, List.set_cons_zero, List.set_cons_succ, i64_w, i32_w]
     rfl
    refine pure_ (i := 4) (N := some 12) (v := ?_) (a' := ?_) #[Y, Y, Y, Y, Y, Yn, Yn] rfl rfl (by kernel_rfl) (fun _ _ _ h => h) (Or.inl ⟨by rfl, ?_⟩) ?_ ?_
    rotate_left
    ·intro w'
     go_simp
     with_reducible rfl
    rotate_left
    ·simp only [Act.put, List.setIfInBounds_toArray, List.set_cons_zero, List.set_cons_succ, i64_w, i32_w]
     rfl
    refine take_ (i := 5) (N := some 13) (v := ?_) (a' := ?_) #[Y, Y, Y, Y, Y, Y, Yn] rfl rfl (by kernel_rfl) (fun _ _ _ h => h) (Or.inl ⟨by rfl, ?_⟩) hHeld ?_ ?_
    rotate_left
    ·rintro w' ⟨s0, s1, s2⟩
     go_simp
     with_reducible rfl
    rotate_left
    ·simp only [Act.put, List.setIfInBounds_toArray, List.set_cons_zero, List.set_cons_succ, i64_w, i32_w]
     rfl
    refine pure_ (i := 6) (N := some 14) (v := ?_) (a' := ?_) #[Y, Y, Y, Y, Y, Y, Y] rfl rfl (by kernel_rfl) (fun _ _ _ h => h) (Or.inl ⟨by rfl, ?_⟩) ?_ ?_
    rotate_left
    ·intro w'
     go_simp
     with_reducible rfl
    rotate_left
    ·simp only [Act.put, List.setIfInBounds_toArray, List.set_cons_zero, List.set_cons_succ, i64_w, i32_w]
     rfl
    refine done_ (by kernel_rfl) ?_
    clear cr c0 y1 hHeld
    have cr := (blk_cell BR3.out 0).trans rfl
    have y0 := (blk_cell BP3.out 0).trans rfl
    have c2 := (blk_cell HG3.out 2).trans rfl
    go_wp2
    go_ret
    exact ⟨_, rfl, FV.nil k23 23 _ _, HI3.out, HB3.out, HK3.out⟩
 ·have k1b : (p1 != id) = true := bne_iff_ne.mpr k1
  have HT := Aside0.mk (show Rn.handle ⟨id, timeout, state, count, msg, deadline⟩ p0 p1 p2 p3 p5 now = ([], ⟨id, timeout, state, count, msg, deadline⟩) by unfold Rn.handle; rw [if_neg k1]; try rfl)
  rw [HT.out]
  clear k1
  go_enter Tryd.func34, Tryd.ntmps34
  go_wp2_with (first | ((with_reducible refine gate_dst (N := 3) rfl ?_); refine box_event ?hg (N := 3) ?hd (cs := #[.pointer (some ⟨g, 0, none⟩)]) (t := 64) ?hr ?_; (case hd => rfl); (case hg => rfl); (case hr => first | (go_simp; done) | (go_simp; rfl)); intro gr hgr w1 hbox hb; have BRa := Aside0.mk hbox; have HIa := Aside0.mk (HI.out.below hb); have HGa := Aside0.mk (blk_below HG.out hb); have HBa := Aside0.mk (hb.mono HBS.out); have HKa := Aside0.mk (KeepR.of_below hb g); clear hb hbox hgr) | ((with_reducible refine gate_dst (N := 4) rfl ?_); refine box_event ?hg (N := 4) ?hd (cs := #[.int .i64 p0, .int .i64 p1, .int .i64 p2, .bool p3, .int .i64 p4, .string p5]) (t := 23) ?hr ?_; (case hd => rfl); (case hg => rfl); (case hr => first | (go_simp; done) | (go_simp; rfl)); intro gp hgp w2 hbox hb; have BP2 := Aside0.mk hbox; have BR2 := Aside0.mk (blk_below BRa.out hb); have HI2 := Aside0.mk (HIa.out.below hb); have HG2 := Aside0.mk (blk_below HGa.out hb); have HB2 := Aside0.mk (HBa.out.trans (hb.mono (Nat.le_trans HBS.out HKa.out.size))); have HK2 := Aside0.mk (HKa.out.trans (KeepR.of_below hb g)); have HNR := Aside0.mk (blk_ne BR2.out HG2.out (by decide)); have HNP := Aside0.mk (blk_ne BP2.out HG2.out (by decide)); have cr := (blk_cell BR2.out 0).trans rfl; have c0 := (blk_cell HG2.out 0).trans rfl; have y1 := (blk_cell BP2.out 1).trans rfl; clear hb hbox hgp BRa HIa HGa HBa HKa))
  have HI3 := Aside0.mk HI2.out.drew
  have HG3 := Aside0.mk (blk_drew HG2.out)
  have BR3 := Aside0.mk (blk_drew BR2.out)
  have BP3 := Aside0.mk (blk_drew BP2.out)
  have HB3 := Aside0.mk HB2.out.drew
  have HK3 := Aside0.mk HK2.out.drew
  refine start_ (n := 7) (S := fun w' => w'.cell? ⟨gp, 1, none⟩ = some (.int .i64 p1) ∧ w'.cell? ⟨gr, 0, none⟩ = some (.pointer (some ⟨g, 0, none⟩)) ∧ w'.cell? ⟨g, 0, none⟩ = some (.int .i64 id)) (ds := []) #[Yn, Yn, Yn, Yn, Yn, Yn, Yn] (by kernel_rfl) rfl rfl ⟨y1, cr, c0⟩ (fun hHeld => ?_)
  generalize w2.drew = w3 at HI3 HG3 BR3 BP3 HB3 HK3 hHeld ⊢
  refine pure_ (i := 0) (N := some 8) (v := ?_) (a' := ?_) #[Y, Yn, Yn, Yn, Yn, Yn, Yn] rfl rfl (by kernel_rfl) (fun _ _ _ h => h) (Or.inl ⟨by rfl, ?_⟩) ?_ ?_
  rotate_left
  ·intro w'
   go_simp
   with_reducible rfl
  rotate_left
  ·simp only [Act.put, List.setIfInBounds_toArray, List.set_cons_zero, List.set_cons_succ, i64_w, i32_w]
   rfl
  refine take_ (i := 1) (N := some 9) (v := ?_) (a' := ?_) #[Y, Y, Yn, Yn, Yn, Yn, Yn] rfl rfl (by kernel_rfl) (fun _ _ _ h => h) (Or.inl ⟨by rfl, ?_⟩) hHeld ?_ ?_
  rotate_left
  ·rintro w' ⟨s0, s1, s2⟩
   go_simp
   with_reducible rfl
  rotate_left
  ·simp only [Act.put, List.setIfInBounds_toArray, List.set_cons_zero, List.set_cons_succ, i64_w, i32_w]
   rfl
  refine take_ (i := 2) (N := some 10) (v := ?_) (a' := ?_) #[Y, Y, Y, Yn, Yn, Yn, Yn] rfl rfl (by kernel_rfl) (fun _ _ _ h => h) (Or.inl ⟨by rfl, ?_⟩) hHeld ?_ ?_
  rotate_left
  ·rintro w' ⟨s0, s1, s2⟩
   go_simp
   with_reducible rfl
  rotate_left
  ·simp only [Act.put, List.setIfInBounds_toArray, List.set_cons_zero, List.set_cons_succ, i64_w, i32_w]
   rfl
  refine pure_ (i := 3) (N := some 11) (v := ?_) (a' := ?_) #[Y, Y, Y, Y, Yn, Yn, Yn] rfl rfl (by kernel_rfl) (fun _ _ _ h => h) (Or.inl ⟨by rfl, ?_⟩) ?_ ?_
  rotate_left
  ·intro w'
   go_simp
   with_reducible rfl
  rotate_left
  ·simp only [Act.put, List.setIfInBounds_toArray, List.set_cons_zero, List.set_cons_succ, i64_w, i32_w]
   rfl
  refine pure_ (i := 4) (N := some 12) (v := ?_) (a' := ?_) #[Y, Y, Y, Y, Y, Yn, Yn] rfl rfl (by kernel_rfl) (fun _ _ _ h => h) (Or.inl ⟨by rfl, ?_⟩) ?_ ?_
  rotate_left
  ·intro w'
   go_simp
   with_reducible rfl
  rotate_left
  ·simp only [Act.put, List.setIfInBounds_toArray, List.set_cons_zero, List.set_cons_succ, i64_w, i32_w]
   rfl
  refine take_ (i := 5) (N := some 13) (v := ?_) (a' := ?_) #[Y, Y, Y, Y, Y, Y, Yn] rfl rfl (by kernel_rfl) (fun _ _ _ h => h) (Or.inl ⟨by rfl, ?_⟩) hHeld ?_ ?_
  rotate_left
  ·rintro w' ⟨s0, s1, s2⟩
   go_simp
   with_reducible rfl
  rotate_left
  ·simp only [Act.put, List.setIfInBounds_toArray, List.set_cons_zero, List.set_cons_succ, i64_w, i32_w]
   rfl
  refine pure_ (i := 6) (N := some 14) (v := ?_) (a' := ?_) #[Y, Y, Y, Y, Y, Y, Y] rfl rfl (by kernel_rfl) (fun _ _ _ h => h) (Or.inl ⟨by rfl, ?_⟩) ?_ ?_
  rotate_left
  ·intro w'
   go_simp
   with_reducible rfl
  rotate_left
  ·simp only [Act.put, List.setIfInBounds_toArray, List.set_cons_zero, List.set_cons_succ, i64_w, i32_w]
   rfl
  refine done_ (by kernel_rfl) ?_
  go_wp2
  go_ret
  exact ⟨_, rfl, FV.nil k23 23 _ _, HI3.out, HB3.out, HK3.out⟩
end Go.Proofs.YtbgabhknmpbgiaaDoor.S
end
section
namespace Go.Proofs.YtbgabhknmpbgiaaDoor.S
open Go.RowKit Go.Proofs.YtbgabhknmpbgiaaDoorW.PrintWords Go.Proofs.YtbgabhknmpbgiaaDoorW.PrintLast Go.Proofs.YtbgabhknmpbgiaaDoorW.PrintMore
set_option linter.unusedVariables false
set_option linter.unusedSimpArgs false
structure Keep23 (w w' : World) : Prop where
 size : w.heap.size ≤ w'.heap.size
 keep : ∀ (k : Nat) cs, w.heap[k]? = some (.cells cs 23 (0, 0)) → w'.heap[k]? = some (.cells cs 23 (0, 0))
theorem Keep23.of_below {w w1 : World} (h : Below w.heap.size w w1) : Keep23 w w1 := ⟨h.size, fun j cs hj => blk_below hj h⟩
theorem Keep23.of_keepBut {w w1 : World} {g : Nat} (h : KeepBut w w1 g none) {cs : Array Value} {t : TypeId} (hg : w.heap[g]? = some (.cells cs t (0, 0))) (ht : t ≠ 23) : Keep23 w w1 := ⟨h.1, fun j cs' hj => (h.2 j (blk_lt hj) (fun e => by subst e; rw [hj] at hg; injection hg with hg; injection hg with _ hg _; exact ht hg.symm) (by simp)).trans hj⟩
theorem Keep23.of_keepR {w w1 : World} {g : Nat} (h : KeepR w w1 g) {cs : Array Value} {t : TypeId} (hg : w.heap[g]? = some (.cells cs t (0, 0))) (ht : t ≠ 23) : Keep23 w w1 := ⟨h.size, fun j cs' hj => h.keep j cs' 23 hj (by decide) (fun e => by subst e; rw [hj] at hg; injection hg with hg; injection hg with _ hg _; exact ht hg.symm)⟩
def Pt (n : Nat) (w : World) (v : Value) (xs : List S23) : Prop := FV k23 23 n w v xs
theorem Pt.keep {n : Nat} {w w1 : World} {v : Value} {xs : List S23} (h : Pt n w v xs) (hk : Keep23 w w1) : Pt n w1 v xs := by
 refine ⟨Kd.V_mono (Kd.V_step h.1 (fun k ho hlt => ?_)) (fun k ho => ?_), h.2⟩
 ·obtain ⟨_, cs, hc⟩ := ho
  rw [hc]
  exact hk.keep k cs hc
 ·obtain ⟨h1, cs, hc⟩ := ho
  exact ⟨h1, cs, hk.keep k cs hc⟩
theorem Pt.slice {n : Nat} {w : World} {v : Value} {xs : List S23} (h : Pt n w v xs) : ∃ A, v = .slice A xs.length xs.length ∧ Kd.C k23 w A xs.length xs := by
 obtain ⟨hv, A, rfl⟩ := h
 have := Kd.V_reads' hv
 exact ⟨A, rfl, this.2.2⟩
structure Net (w0 ws : World) (B gs gr : Nat) (s : Sn) (r : Rn) (w : World) : Prop where
 snd : AtP ws w gs s
 sb : Below ws.heap.size ws w
 rcv : RcvAt B gr r w
 bb : ws.heap.size ≤ B
 bw : B ≤ w.heap.size
 b0 : w0.heap.size ≤ ws.heap.size
 base : Below w0.heap.size w0 w
theorem Net.ne {w0 ws : World} {B gs gr : Nat} {s : Sn} {r : Rn} {w : World} (h : Net w0 ws B gs gr s r w) : gs ≠ gr := by
 obtain ⟨A4, c4, h1, _⟩ := h.snd
 obtain ⟨v, h2, _⟩ := h.rcv
 exact blk_ne h1 h2 (by decide)
theorem Net.below {w0 ws : World} {B gs gr : Nat} {s : Sn} {r : Rn} {w w1 : World} (h : Net w0 ws B gs gr s r w) (hb : Below w.heap.size w w1) : Net w0 ws B gs gr s r w1 :=
 ⟨h.snd.below hb, h.sb.trans (hb.mono h.sb.size), h.rcv.below hb, h.bb, Nat.le_trans h.bw hb.size, h.b0, below_step h.base hb⟩
theorem Net.rcall {w0 ws : World} {B gs gr : Nat} {s : Sn} {r : Rn} {w w1 : World} {x : List S23 × Rn} {e : Ending} (h : Net w0 ws B gs gr s r w) (hp : RcvPost B w gr x e w1) : ∃ v : Value, e = .returned v ∧ Pt w.heap.size w1 v x.1 ∧ Net w0 ws B gs gr s x.2 w1 ∧ Keep23 w w1 := by
 obtain ⟨v, he, hv, hr, hb, hk⟩ := hp
 have hne := h.ne
 obtain ⟨A4, c4, h1, h2, h3⟩ := h.snd
 obtain ⟨u, h4, _⟩ := h.rcv
 exact ⟨v, he, hv, ⟨⟨A4, c4, hk.keep gs _ 110 h1 (by decide) hne, h2, h3⟩, h.sb.trans (hb.mono h.bb), hr, h.bb, Nat.le_trans h.bw hk.size, h.b0, h.base.trans (hb.mono (Nat.le_trans h.b0 h.bb))⟩, Keep23.of_keepR hk h4 (by decide)⟩
theorem Net.scall {w0 ws : World} {B gs gr : Nat} {s : Sn} {r : Rn} {w w1 : World} {x : List S23 × Sn} {e : Ending} (h : Net w0 ws B gs gr s r w) (hp : PPost ws w gs x e w1) : ∃ v : Value, e = .returned v ∧ Pt w.heap.size w1 v x.1 ∧ Net w0 ws B gs gr x.2 r w1 ∧ Keep23 w w1 := by
 obtain ⟨v, he, hv, hs, hb, hk⟩ := hp
 have hne := h.ne
 obtain ⟨A4, c4, h1, h2, h3⟩ := h.snd
 exact ⟨v, he, hv, ⟨hs, hb, h.rcv.keepBut hk (Ne.symm hne) h1 (by decide), h.bb, Nat.le_trans h.bw hk.1, h.b0, ⟨hb.os.trans (h.sb.os.symm.trans h.base.os), hb.tape.trans (h.sb.tape.symm.trans h.base.tape), hb.output.trans (h.sb.output.symm.trans h.base.output), Nat.le_trans h.base.size hk.1, fun k hk0 => (hb.block k (Nat.lt_of_lt_of_le hk0 h.b0)).trans ((h.sb.block k (Nat.lt_of_lt_of_le hk0 h.b0)).symm.trans (h.base.block k hk0))⟩⟩, Keep23.of_keepBut hk h1 (by decide)⟩
end Go.Proofs.YtbgabhknmpbgiaaDoor.S
end
section
namespace Go.Proofs.YtbgabhknmpbgiaaDoor.S
open Go.RowKit Go.Proofs.YtbgabhknmpbgiaaDoor.Pure Go.Proofs.YtbgabhknmpbgiaaDoorW.PrintWords Go.Proofs.YtbgabhknmpbgiaaDoorW.PrintLast Go.Proofs.YtbgabhknmpbgiaaDoorW.PrintMore
set_option linter.unusedVariables false
set_option linter.unusedSimpArgs false
attribute [local go_sem] max2_int min2_int max_two min_two
abbrev msgA : ByteArray := ⟨#[97, 98, 99, 100, 101, 102, 103]⟩
def segsA : List ByteArray := [⟨#[97, 98, 99]⟩, ⟨#[100, 101, 102]⟩, ⟨#[103]⟩]
def P0 : S23 := ⟨1, 5, 0, true, 2, ⟨#[97, 98, 99]⟩⟩
def P1 : S23 := ⟨1, 5, 1, true, 2, ⟨#[100, 101, 102]⟩⟩
def P2 : S23 := ⟨1, 5, 2, false, 2, ⟨#[103]⟩⟩
def sA1 : Sn := ⟨5, 2, 10, 1, segsA, 0, 0, 2, 0, 110⟩
def sA2 : Sn := ⟨5, 2, 10, 1, segsA, 0, 0, 2, 1, 120⟩
def sA3 : Sn := ⟨5, 2, 10, 1, segsA, 0, 2, 3, 0, 123⟩
def rA0 : Rn := ⟨5, 30, 0, 0, [], 130⟩
def rA1 : Rn := ⟨5, 30, 0, 0, [], 131⟩
def rA2 : Rn := ⟨5, 30, 0, 1, [97, 98, 99], 141⟩
def rA3 : Rn := ⟨5, 30, 0, 2, [97, 98, 99, 100, 101, 102], 142⟩
def rA4 : Rn := ⟨5, 30, 1, 3, [97, 98, 99, 100, 101, 102, 103], 144⟩
def ackA (n : Int) : S23 := ⟨2, 5, n, false, 0, ⟨#[]⟩⟩
def encS : ByteArray := strOfNums (encB P0)
theorem Pt.C {n l c : Nat} {w : World} {A : Option Addr} {xs : List S23} (h : Pt n w (.slice A l c) xs) : Kd.C k23 w A xs.length xs := by
 obtain ⟨A', e, hC⟩ := h.slice
 injection e with e1
 exact e1 ▸ hC
structure AtE (w : World) (ad : Addr) (o : Nat) (x : S23) : Prop where
 c0 : w.cell? (if o = 0 then ad else ⟨ad.block, ad.off + o, none⟩) = some (.int .i64 x.f0)
 c1 : w.cell? ⟨ad.block, ad.off + o + 1, none⟩ = some (.int .i64 x.f1)
 c2 : w.cell? ⟨ad.block, ad.off + o + 2, none⟩ = some (.int .i64 x.f2)
 c3 : w.cell? ⟨ad.block, ad.off + o + 3, none⟩ = some (.bool x.f3)
 c4 : w.cell? ⟨ad.block, ad.off + o + 4, none⟩ = some (.int .i64 x.f4)
 c5 : w.cell? ⟨ad.block, ad.off + o + 5, none⟩ = some (.string x.f5)
theorem Pt.atE {n l c : Nat} {w : World} {ad : Addr} {xs : List S23} (h : Pt n w (.slice (some ad) l c) xs) (i : Nat) (hi : i < xs.length) : AtE w ad (i * 6) (rd_T23 xs i) := by
 obtain ⟨ad', e, h0, h1, h2, h3, h4, h5⟩ := at_T23 h.C (i : Int) (by omega) (by omega)
 obtain rfl := Option.some.inj e
 rw [Int.toNat_natCast] at h0 h1 h2 h3 h4 h5
 simp only [Addr.add] at h0 h1 h2 h3 h4 h5
 have hb : (if i * 6 = 0 then ad else (⟨ad.block, ad.off + i * 6, none⟩ : Addr)).block = ad.block := by split <;> rfl
 have ho : (if i * 6 = 0 then ad else (⟨ad.block, ad.off + i * 6, none⟩ : Addr)).off = ad.off + i * 6 := by split <;> (try omega) <;> (try rfl)
 rw [hb, ho] at h1 h2 h3 h4 h5
 exact ⟨h0, h1, h2, h3, h4, h5⟩
theorem Pt.head_at {n c : Nat} {w : World} {A : Option Addr} {l : Nat} {x : S23} {xs : List S23} (h : Pt n w (.slice A l c) (x :: xs)) : ∃ ad, A = some ad := by
 obtain ⟨ad, e, _⟩ := at_T23 h.C 0 (by decide) (by simp)
 exact ⟨ad, e⟩
theorem splitA : segment_Split.f 40 msgA 3 = some (segsA, 0) := by kernel_rfl
theorem newEA : newE 5 2 10 1 0 = 0 := by kernel_rfl
theorem begA : begE 5 30 = 0 := by kernel_rfl
theorem newA : newS 5 2 10 1 segsA 100 = ([P0, P1], sA1) := by kernel_rfl
theorem hA1 : rA0.handle 1 5 1 true ⟨#[100, 101, 102]⟩ 101 = ([ackA (-1)], rA1) := by kernel_rfl
theorem tA1 : sA1.tick 110 = ([P0, P1], sA2) := by kernel_rfl
theorem hA2 : rA1.handle 1 5 0 true ⟨#[97, 98, 99]⟩ 111 = ([ackA 0], rA2) := by kernel_rfl
theorem hA3 : rA2.handle 1 5 1 true ⟨#[100, 101, 102]⟩ 112 = ([ackA 1], rA3) := by kernel_rfl
theorem shA : sA2.handle 2 5 1 113 = ([P2], sA3) := by kernel_rfl
theorem hA4 : rA3.handle 1 5 2 false ⟨#[103]⟩ 114 = ([ackA 2], rA4) := by kernel_rfl
theorem tA2 : rA4.tick 1000 = ([], rA4) := by kernel_rfl
theorem mA : (if rA4.state = 1 then strOfNums rA4.msg else ⟨#[]⟩) = msgA := by kernel_rfl
theorem encA : segment_Encode.f 1 5 0 true 2 ⟨#[97, 98, 99]⟩ = some (encS, 0) := by kernel_rfl
theorem decA_ : segment_Decode.f encS = some (1, 5, 0, true, 2, ⟨#[97, 98, 99]⟩, 0) := by kernel_rfl
theorem chkA : segment_Check.f 40 1 5 0 true 2 ⟨#[97, 98, 99]⟩ = some 0 := by kernel_rfl
theorem chkZ : segment_Check.f 40 0 0 0 false 0 ⟨#[]⟩ = some 3 := by kernel_rfl
theorem okA1 : OkS sA1 := ⟨by decide, by decide, by decide, by decide, by decide, by decide, by decide⟩
theorem okA2 : OkS sA2 := ⟨by decide, by decide, by decide, by decide, by decide, by decide, by decide⟩
def Row (w : World) (ad : Addr) (cs : List Value) : Prop := ∀ j v, cs[j]? = some v → w.cell? (ad.add j) = some v
theorem Row.below {w w1 : World} {ad : Addr} {cs : List Value} (h : Row w ad cs) (hb : Below w.heap.size w w1) : Row w1 ad cs := fun j v hv => pw_cell_below hb (h j v hv)
theorem row_blk {w : World} {g : Nat} {cs : List Value} {t : TypeId} {fr : Nat × Nat} (h : w.heap[g]? = some (.cells cs.toArray t fr)) : Row w ⟨g, 0, none⟩ cs := fun j v hv => by
 have hadd : (⟨g, 0, none⟩ : Addr).add j = ⟨g, j, none⟩ := by unfold Addr.add; split <;> simp_all
 rw [hadd, cell_of_row w g j _ t fr h]
 simpa using hv
theorem Pt.row {n l c : Nat} {w : World} {ad : Addr} {x : S23} {xs : List S23} (h : Pt n w (.slice (some ad) l c) (x :: xs)) (h0 : 0 < (x :: xs).length) : Row w ad [.int .i64 x.f0, .int .i64 x.f1, .int .i64 x.f2, .bool x.f3, .int .i64 x.f4, .string x.f5] := by
 obtain ⟨c0, c1, c2, c3, c4, c5⟩ := h.atE 0 h0
 have hadd : ∀ j, j ≠ 0 → ad.add j = ⟨ad.block, ad.off + j, none⟩ := fun j hj => by unfold Addr.add; rw [if_neg hj]
 intro j v hv
 rcases j with _ | _ | _ | _ | _ | _ | j
 ·injection hv with hv; subst hv; exact c0
 ·injection hv with hv; subst hv; rw [hadd 1 (by decide)]; exact c1
 ·injection hv with hv; subst hv; rw [hadd 2 (by decide)]; exact c2
 ·injection hv with hv; subst hv; rw [hadd 3 (by decide)]; exact c3
 ·injection hv with hv; subst hv; rw [hadd 4 (by decide)]; exact c4
 ·injection hv with hv; subst hv; rw [hadd 5 (by decide)]; exact c5
 ·cases hv
theorem run_loadVar_at {P : Program} (w : World) (ad : Addr) (ty : TypeId) (cs : List Value) (d : TypeDesc) (hc : Row w ad cs)
  (hu : P.underlying ty = some d) (hd : d.isRow = true) (hi : (P.info? ty).map (·.size) = some cs.length) : (loadVar ty ad).run P w = .ok (.agg cs.toArray) w := by
 have hl := run_loadCells_list (P := P) w ad cs hc
 cases hq : P.info? ty with
 | none => simp [hq] at hi
 | some i =>
  have hs : i.size = cs.length := by simpa [hq] using hi
  have hagg : (isAgg ty).run P w = .ok true w := by
   unfold isAgg
   rw [Sem.run_bind, run_underlying hu w]
   cases d <;> simp_all
  simp [loadVar, Sem.run_bind, hagg, sizeOf, typeInfo, hq, hs, hl]
theorem yieldsIf_load_at {P : Program} {ops : Array Oper} {S : World → Prop} {op : Oper} {a : Act} (hw : Region.wanted op (yielded ops a.tmps) = true) (ty : TypeId) (x : Operand) (ho : op.op = .load ty x)
  (ad : Addr) (hx : a.eval x = .pointer (some ad)) (cs : List Value) (d : TypeDesc) (hS : ∀ w, S w → Row w ad cs)
  (hu : P.underlying ty = some d) (hd : d.isRow = true) (hi : (P.info? ty).map (·.size) = some cs.length) : YieldsIf P ops S op (.agg cs.toArray) a :=
 .inl ⟨hw, fun w hw' => by
  unfold execOp
  simp only [ho, hx, Instr.loadAt, Instr.sureAddr, Sem.run_bind, Sem.run_pure, Result.andThen_ok, run_loadVar_at w ad ty cs d (hS w hw') hu hd hi]⟩
theorem stA (B g : Nat) (w : World) (h : RcvAt B g rA4 w) : Calls Tryd.prog 38 #[.pointer (some ⟨g, 0, none⟩)] w fun e w' => e = .returned (.int .i64 1) ∧ w' = w := rstate_calls B g rA4 w h
set_option maxHeartbeats 16000000 in
set_option maxRecDepth 100000 in
theorem sstate_calls (g : Nat) (s : Sn) (w0 w : World) (h : AtP w0 w g s) : Calls Tryd.prog 29 #[.pointer (some ⟨g, 0, none⟩)] w fun e w' => e = .returned (.int .i64 s.state) ∧ w' = w := by
 obtain ⟨id, window, timeout, retries, segs, state, base, next, tries, deadline⟩ := s
 obtain ⟨A4, c4, hG, _⟩ := h
 have c5 := (blk_cell hG 5).trans rfl
 clear hG
 go_enter Tryd.func29, Tryd.ntmps29
 go_wp2
 go_ret
 exact ⟨rfl, rfl⟩
theorem ssA (g : Nat) (w0 w : World) (h : AtP w0 w g sA3) : Calls Tryd.prog 29 #[.pointer (some ⟨g, 0, none⟩)] w fun e w' => e = .returned (.int .i64 0) ∧ w' = w := sstate_calls g sA3 w0 w h
theorem rtA (w0 ws : World) (B gs gr : Nat) (s : Sn) (w : World) (h : Net w0 ws B gs gr s rA4 w) : Calls Tryd.prog 32 #[.pointer (some ⟨gr, 0, none⟩), .int .i64 1000] w fun e w' => ∃ A, e = .returned (.slice A 0 0) ∧ Net w0 ws B gs gr s rA4 w' ∧ Keep23 w w' := by
 refine (rtick_calls B gr rA4 1000 w h.rcv).mono ?_
 intro e w' hp
 rw [tA2] at hp
 obtain ⟨v, rfl, hv, hn, hk⟩ := h.rcall hp
 obtain ⟨A, ev, _⟩ := hv.slice
 subst ev
 exact ⟨A, rfl, hn, hk⟩
set_option maxHeartbeats 16000000 in
set_option maxRecDepth 100000 in
theorem awake_calls (w : World) (hG : Glob w) : Calls Tryd.prog 10 #[] w fun e w' => e = .returned (.bool true) ∧ Below w.heap.size w w' := by
 have HG := Aside0.mk hG
 clear hG
 go_enter Tryd.func10, Tryd.ntmps10
 go_wp2_with (first | (go_at_call 18; (with_reducible refine (segment_Split.calls 40 msgA 3 segsA 0 w HG.out splitA).mono ?_); rintro e w1 ⟨v1, rfl, ho, hb⟩; have HB1 := Aside0.mk hb; obtain ⟨A1, c1, ev, hcl, hC⟩ := Kd.R_reads ho; have ev2 : v1 = .slice A1 3 c1 := ev; clear ev; subst ev2; clear hC hcl ho hb) | (go_at_call 21; (with_reducible refine (newP_calls 40 5 msgA 3 2 10 1 100 segsA 0 w1 (Glob.below HG.out HB1.out) splitA (by decide)).mono ?_); rintro e w2 ⟨_, hp⟩; obtain ⟨gs, v2, ws, rfl, hv, hs, hb0, hb⟩ := hp newEA; rw [newA] at hv hs; obtain ⟨hvv, A2, ev⟩ := hv; have ev2 : v2 = .slice A2 2 2 := ev; clear ev; subst ev2; have HV2 := Aside0.mk (show Pt w1.heap.size w2 (.slice A2 2 2) [P0, P1] from ⟨hvv, A2, rfl⟩); have HS2 := Aside0.mk hs; have HW2 := Aside0.mk hb0; have HB2 := Aside0.mk hb; clear hp hvv hs hb0 hb) | (go_at_call 30; (with_reducible refine (rnew_calls 5 30 100 w2 (Glob.below HG.out (below_step (below_step HB1.out HW2.out) HB2.out))).mono ?_); rintro e w3 ⟨_, hp⟩; obtain ⟨gr, rfl, hr, hb⟩ := hp begA; rw [show wrap64 ((100 : Int) + 30) = 130 by kernel_rfl] at hr; have HN3 := Aside0.mk (show Net w ws w2.heap.size gs gr sA1 rA0 w3 from ⟨HS2.out.below hb, HB2.out.trans (hb.mono HB2.out.size), hr, HB2.out.size, hb.size, Nat.le_trans HB1.out.size HW2.out.size, below_step (below_step (below_step HB1.out HW2.out) HB2.out) hb⟩); have HPa3 := Aside0.mk (HV2.out.keep (Keep23.of_below hb)); clear hp hr hb; obtain ⟨ada, rfl⟩ := HPa3.out.head_at; have h_ := Pt.atE HPa3.out 1 (by decide); have y0 : w3.cell? ⟨ada.block, ada.off + 6, none⟩ = some (.int .i64 1) := h_.c0; have y1 : w3.cell? ⟨ada.block, ada.off + 6 + 1, none⟩ = some (.int .i64 5) := h_.c1; have y2 : w3.cell? ⟨ada.block, ada.off + 6 + 2, none⟩ = some (.int .i64 1) := h_.c2; have y3 : w3.cell? ⟨ada.block, ada.off + 6 + 3, none⟩ = some (.bool true) := h_.c3; have y4 : w3.cell? ⟨ada.block, ada.off + 6 + 4, none⟩ = some (.int .i64 2) := h_.c4; have y5 : w3.cell? ⟨ada.block, ada.off + 6 + 5, none⟩ = some (.string ⟨#[100, 101, 102]⟩) := h_.c5; clear h_; skip) | (go_at_call 34; (with_reducible refine (rhandle_calls w2.heap.size gr rA0 1 5 1 true 2 ⟨#[100, 101, 102]⟩ 101 w3 HN3.out.rcv HN3.out.bw (by decide)).mono ?_); rintro e w4 hp; rw [hA1] at hp; obtain ⟨v4, rfl, hv, hn, hk⟩ := Net.rcall HN3.out hp; have HN4 := Aside0.mk (show Net w ws w2.heap.size gs gr sA1 rA1 w4 from hn); have HPa4 := Aside0.mk (HPa3.out.keep hk); obtain ⟨A4, ev, _⟩ := hv.slice; subst ev; have HPb4 := Aside0.mk (show Pt w3.heap.size w4 (.slice A4 1 1) [ackA (-1)] from hv); clear hv; obtain ⟨adb, rfl⟩ := HPb4.out.head_at; clear y0 y1 y2 y3 y4 y5; clear hp hn hk) | (go_at_call 24; (with_reducible refine (tickP_calls gs sA1 110 ws w4 HN4.out.snd HN4.out.sb okA1).mono ?_); rintro e w5 hp; rw [tA1] at hp; obtain ⟨v5, rfl, hv, hn, hk⟩ := Net.scall HN4.out hp; have HN5 := Aside0.mk (show Net w ws w2.heap.size gs gr sA2 rA1 w5 from hn); have HPa5 := Aside0.mk (HPa4.out.keep hk); have HPb5 := Aside0.mk (HPb4.out.keep hk); obtain ⟨A5, ev, _⟩ := hv.slice; subst ev; have HPc5 := Aside0.mk (show Pt w4.heap.size w5 (.slice A5 2 2) [P0, P1] from hv); clear hv; obtain ⟨adc, rfl⟩ := HPc5.out.head_at; have h_ := Pt.atE HPa5.out 0 (by decide); have x0 : w5.cell? ada = some (.int .i64 1) := h_.c0; have x1 : w5.cell? ⟨ada.block, ada.off + 1, none⟩ = some (.int .i64 5) := h_.c1; have x2 : w5.cell? ⟨ada.block, ada.off + 2, none⟩ = some (.int .i64 0) := h_.c2; have x3 : w5.cell? ⟨ada.block, ada.off + 3, none⟩ = some (.bool true) := h_.c3; have x4 : w5.cell? ⟨ada.block, ada.off + 4, none⟩ = some (.int .i64 2) := h_.c4; have x5 : w5.cell? ⟨ada.block, ada.off + 5, none⟩ = some (.string ⟨#[97, 98, 99]⟩) := h_.c5; clear h_; clear hp hn hk) | (go_at_call 34; (with_reducible refine (rhandle_calls w2.heap.size gr rA1 1 5 0 true 2 ⟨#[97, 98, 99]⟩ 111 w5 HN5.out.rcv HN5.out.bw (by decide)).mono ?_); rintro e w6 hp; rw [hA2] at hp; obtain ⟨v6, rfl, hv, hn, hk⟩ := Net.rcall HN5.out hp; have HN6 := Aside0.mk (show Net w ws w2.heap.size gs gr sA2 rA2 w6 from hn); have HPa6 := Aside0.mk (HPa5.out.keep hk); have HPb6 := Aside0.mk (HPb5.out.keep hk); obtain ⟨A6, ev, _⟩ := hv.slice; subst ev; clear hv; clear x0 x1 x2 x3 x4 x5; have h_ := Pt.atE HPa6.out 1 (by decide); have y0 : w6.cell? ⟨ada.block, ada.off + 6, none⟩ = some (.int .i64 1) := h_.c0; have y1 : w6.cell? ⟨ada.block, ada.off + 6 + 1, none⟩ = some (.int .i64 5) := h_.c1; have y2 : w6.cell? ⟨ada.block, ada.off + 6 + 2, none⟩ = some (.int .i64 1) := h_.c2; have y3 : w6.cell? ⟨ada.block, ada.off + 6 + 3, none⟩ = some (.bool true) := h_.c3; have y4 : w6.cell? ⟨ada.block, ada.off + 6 + 4, none⟩ = some (.int .i64 2) := h_.c4; have y5 : w6.cell? ⟨ada.block, ada.off + 6 + 5, none⟩ = some (.string ⟨#[100, 101, 102]⟩) := h_.c5; clear h_; clear hp hn hk) | (go_at_call 34; (with_reducible refine (rhandle_calls w2.heap.size gr rA2 1 5 1 true 2 ⟨#[100, 101, 102]⟩ 112 w6 HN6.out.rcv HN6.out.bw (by decide)).mono ?_); rintro e w7 hp; rw [hA3] at hp; obtain ⟨v7, rfl, hv, hn, hk⟩ := Net.rcall HN6.out hp; have HN7 := Aside0.mk (show Net w ws w2.heap.size gs gr sA2 rA3 w7 from hn); have HPa7 := Aside0.mk (HPa6.out.keep hk); have HPb7 := Aside0.mk (HPb6.out.keep hk); obtain ⟨A7, ev, _⟩ := hv.slice; subst ev; have HPd7 := Aside0.mk (show Pt w6.heap.size w7 (.slice A7 1 1) [ackA 1] from hv); clear hv; obtain ⟨add, rfl⟩ := HPd7.out.head_at; clear y0 y1 y2 y3 y4 y5; have h_ := Pt.atE HPb7.out 0 (by decide); have x0 : w7.cell? adb = some (.int .i64 2) := h_.c0; have x1 : w7.cell? ⟨adb.block, adb.off + 1, none⟩ = some (.int .i64 5) := h_.c1; have x2 : w7.cell? ⟨adb.block, adb.off + 2, none⟩ = some (.int .i64 (-1)) := h_.c2; have x3 : w7.cell? ⟨adb.block, adb.off + 3, none⟩ = some (.bool false) := h_.c3; have x4 : w7.cell? ⟨adb.block, adb.off + 4, none⟩ = some (.int .i64 0) := h_.c4; have x5 : w7.cell? ⟨adb.block, adb.off + 5, none⟩ = some (.string ⟨#[]⟩) := h_.c5; clear h_; have h_ := Pt.atE HPd7.out 0 (by decide); have y0 : w7.cell? add = some (.int .i64 2) := h_.c0; have y1 : w7.cell? ⟨add.block, add.off + 1, none⟩ = some (.int .i64 5) := h_.c1; have y2 : w7.cell? ⟨add.block, add.off + 2, none⟩ = some (.int .i64 1) := h_.c2; have y3 : w7.cell? ⟨add.block, add.off + 3, none⟩ = some (.bool false) := h_.c3; have y4 : w7.cell? ⟨add.block, add.off + 4, none⟩ = some (.int .i64 0) := h_.c4; have y5 : w7.cell? ⟨add.block, add.off + 5, none⟩ = some (.string ⟨#[]⟩) := h_.c5; clear h_; clear hp hn hk) | (go_at_call 26; (with_reducible refine (handleP_calls gs sA2 2 5 1 false 0 ⟨#[]⟩ 113 ws w7 HN7.out.snd HN7.out.sb okA2).mono ?_); rintro e w8 hp; rw [shA] at hp; obtain ⟨v8, rfl, hv, hn, hk⟩ := Net.scall HN7.out hp; have HN8 := Aside0.mk (show Net w ws w2.heap.size gs gr sA3 rA3 w8 from hn); have HPa8 := Aside0.mk (HPa7.out.keep hk); have HPd8 := Aside0.mk (HPd7.out.keep hk); obtain ⟨A8, ev, _⟩ := hv.slice; subst ev; have HPh8 := Aside0.mk (show Pt w7.heap.size w8 (.slice A8 1 1) [P2] from hv); clear hv; obtain ⟨adh, rfl⟩ := HPh8.out.head_at; clear x0 x1 x2 x3 x4 x5 y0 y1 y2 y3 y4 y5; have h_ := Pt.atE HPh8.out 0 (by decide); have x0 : w8.cell? adh = some (.int .i64 1) := h_.c0; have x1 : w8.cell? ⟨adh.block, adh.off + 1, none⟩ = some (.int .i64 5) := h_.c1; have x2 : w8.cell? ⟨adh.block, adh.off + 2, none⟩ = some (.int .i64 2) := h_.c2; have x3 : w8.cell? ⟨adh.block, adh.off + 3, none⟩ = some (.bool false) := h_.c3; have x4 : w8.cell? ⟨adh.block, adh.off + 4, none⟩ = some (.int .i64 2) := h_.c4; have x5 : w8.cell? ⟨adh.block, adh.off + 5, none⟩ = some (.string ⟨#[103]⟩) := h_.c5; clear h_; clear hp hn hk) | (go_at_call 34; (with_reducible refine (rhandle_calls w2.heap.size gr rA3 1 5 2 false 2 ⟨#[103]⟩ 114 w8 HN8.out.rcv HN8.out.bw (by decide)).mono ?_); rintro e w9 hp; rw [hA4] at hp; obtain ⟨v9, rfl, hv, hn, hk⟩ := Net.rcall HN8.out hp; have HN9 := Aside0.mk (show Net w ws w2.heap.size gs gr sA3 rA4 w9 from hn); have HPa9 := Aside0.mk (HPa8.out.keep hk); have HPh9 := Aside0.mk (HPh8.out.keep hk); obtain ⟨A9, ev, _⟩ := hv.slice; subst ev; clear hv; clear x0 x1 x2 x3 x4 x5; have h_ := Pt.atE HPa9.out 0 (by decide); have x0 : w9.cell? ada = some (.int .i64 1) := h_.c0; have x1 : w9.cell? ⟨ada.block, ada.off + 1, none⟩ = some (.int .i64 5) := h_.c1; have x2 : w9.cell? ⟨ada.block, ada.off + 2, none⟩ = some (.int .i64 0) := h_.c2; have x3 : w9.cell? ⟨ada.block, ada.off + 3, none⟩ = some (.bool true) := h_.c3; have x4 : w9.cell? ⟨ada.block, ada.off + 4, none⟩ = some (.int .i64 2) := h_.c4; have x5 : w9.cell? ⟨ada.block, ada.off + 5, none⟩ = some (.string ⟨#[97, 98, 99]⟩) := h_.c5; clear h_; clear hp hn hk) | (go_at_call 36; (with_reducible refine (rmessage_calls w2.heap.size gr rA4 w9 HN9.out.rcv).mono ?_); rintro e wm ⟨he, rfl⟩; rw [mA, show (rA4.state == 1) = true from rfl] at he; subst he) | (go_at_call 13; (with_reducible refine (segment_Encode.calls 1 5 0 true 2 ⟨#[97, 98, 99]⟩ encS 0 wm (Glob.below HG.out HN9.out.base) encA).mono ?_); rintro e w10 ⟨rfl, hb⟩; have HN10 := Aside0.mk (HN9.out.below hb); have HPa10 := Aside0.mk (HPa9.out.keep (Keep23.of_below hb)); have HPh10 := Aside0.mk (HPh9.out.keep (Keep23.of_below hb)); clear hb; clear x0 x1 x2 x3 x4 x5) | (go_at_call 14; (with_reducible refine (segment_Decode.calls encS 1 5 0 true 2 ⟨#[97, 98, 99]⟩ 0 w10 (Glob.below HG.out HN10.out.base) decA_).mono ?_); rintro e w11 ⟨rfl, hb⟩; have HN11 := Aside0.mk (HN10.out.below hb); have HPa11 := Aside0.mk (HPa10.out.keep (Keep23.of_below hb)); have HPh11 := Aside0.mk (HPh10.out.keep (Keep23.of_below hb)); clear hb))
 have HN12 := Aside0.mk (HN11.out.below (below_alloc (Below.refl _ _) (.cells #[.int .i64 1, .int .i64 5, .int .i64 0, .bool true, .int .i64 2, .string ⟨#[97, 98, 99]⟩] 23)))
 have HPa12 := Aside0.mk (HPa11.out.keep (Keep23.of_below (below_alloc (Below.refl _ _) (.cells #[.int .i64 1, .int .i64 5, .int .i64 0, .bool true, .int .i64 2, .string ⟨#[97, 98, 99]⟩] 23))))
 have HX12 := Aside0.mk (blk_new w11 (.cells #[.int .i64 1, .int .i64 5, .int .i64 0, .bool true, .int .i64 2, .string ⟨#[97, 98, 99]⟩] 23))
 clear HN11 HPa11
 generalize hgx : w11.heap.size = gx at HX12 ⊢
 clear hgx
 generalize w11.alloc (.cells #[.int .i64 1, .int .i64 5, .int .i64 0, .bool true, .int .i64 2, .string ⟨#[97, 98, 99]⟩] 23) = w12 at HN12 HPa12 HX12 ⊢
 have HN13 := Aside0.mk (HN12.out.below (below_drew1 (Below.refl _ _)))
 have HPa13 := Aside0.mk (HPa12.out.keep (Keep23.of_below (below_drew1 (Below.refl _ _))))
 have HX13 := Aside0.mk (blk_drew HX12.out)
 clear HN12 HPa12 HX12
 have hu23 := Tryd.underlying23
 clear HB1 HS2 HW2 HB2 HN3 HV2 HPa3 HN4 HPa4 HPb4 HN5 HPa5 HPb5 HPc5 HN6 HPa6 HPb6 HN7 HPa7 HPb7 HPd7 HN8 HPa8 HPd8 HPh8 HN9 HPa9 HPh9 HN10 HPa10 HPh10 HPh11
 refine start_ (n := 47) (S := fun w' => Row w' ada [.int .i64 1, .int .i64 5, .int .i64 0, .bool true, .int .i64 2, .string ⟨#[97, 98, 99]⟩] ∧ Row w' ⟨gx, 0, none⟩ [.int .i64 1, .int .i64 5, .int .i64 0, .bool true, .int .i64 2, .string ⟨#[97, 98, 99]⟩]) (ds := []) #[Yn, Yn, Yn, Yn, Yn, Yn, Yn, Yn, Yn, Yn, Yn, Yn, Yn, Yn, Yn, Yn, Yn, Yn, Yn, Yn, Yn, Yn, Yn, Yn, Yn, Yn, Yn, Yn, Yn, Yn, Yn, Yn, Yn, Yn, Yn, Yn, Yn, Yn, Yn, Yn, Yn, Yn, Yn, Yn, Yn, Yn, Yn] (by kernel_rfl) rfl rfl ⟨(Pt.row (x := P0) (xs := [P1]) HPa13.out (by decide)), (row_blk HX13.out)⟩ (fun hHeld => ?_)
 refine pure_ (i := 0) (N := some 146) (v := ?_) (a' := ?_) #[Y, Yn, Yn, Yn, Yn, Yn, Yn, Yn, Yn, Yn, Yn, Yn, Yn, Yn, Yn, Yn, Yn, Yn, Yn, Yn, Yn, Yn, Yn, Yn, Yn, Yn, Yn, Yn, Yn, Yn, Yn, Yn, Yn, Yn, Yn, Yn, Yn, Yn, Yn, Yn, Yn, Yn, Yn, Yn, Yn, Yn, Yn] rfl rfl (by kernel_rfl) (fun _ _ _ h => h) (Or.inl ⟨by rfl, ?_⟩) ?_ ?_
 rotate_left
 ·intro w'
  go_simp
  with_reducible rfl
 rotate_left
 ·simp only [Act.put, List.setIfInBounds_toArray, List.set_cons_zero, List.set_cons_succ, i64_w, i32_w]
  rfl
 refine pure_ (i := 1) (N := some 147) (v := ?_) (a' := ?_) #[Y, Y, Yn, Yn, Yn, Yn, Yn, Yn, Yn, Yn, Yn, Yn, Yn, Yn, Yn, Yn, Yn, Yn, Yn, Yn, Yn, Yn, Yn, Yn, Yn, Yn, Yn, Yn, Yn, Yn, Yn, Yn, Yn, Yn, Yn, Yn, Yn, Yn, Yn, Yn, Yn, Yn, Yn, Yn, Yn, Yn, Yn] rfl rfl (by kernel_rfl) (fun _ _ _ h => h) (Or.inl ⟨by rfl, ?_⟩) ?_ ?_
 rotate_left
 ·intro w'
  go_simp
  with_reducible rfl
 rotate_left
 ·simp only [Act.put, List.setIfInBounds_toArray, List.set_cons_zero, List.set_cons_succ, i64_w, i32_w]
  rfl
 refine pure_ (i := 2) (N := some 148) (v := ?_) (a' := ?_) #[Y, Y, Y, Yn, Yn, Yn, Yn, Yn, Yn, Yn, Yn, Yn, Yn, Yn, Yn, Yn, Yn, Yn, Yn, Yn, Yn, Yn, Yn, Yn, Yn, Yn, Yn, Yn, Yn, Yn, Yn, Yn, Yn, Yn, Yn, Yn, Yn, Yn, Yn, Yn, Yn, Yn, Yn, Yn, Yn, Yn, Yn] rfl rfl (by kernel_rfl) (fun _ _ _ h => h) (Or.inl ⟨by rfl, ?_⟩) ?_ ?_
 rotate_left
 ·intro w'
  go_simp
  with_reducible rfl
 rotate_left
 ·simp only [Act.put, List.setIfInBounds_toArray, List.set_cons_zero, List.set_cons_succ, i64_w, i32_w]
  rfl
 refine pure_ (i := 3) (N := some 149) (v := ?_) (a' := ?_) #[Y, Y, Y, Y, Yn, Yn, Yn, Yn, Yn, Yn, Yn, Yn, Yn, Yn, Yn, Yn, Yn, Yn, Yn, Yn, Yn, Yn, Yn, Yn, Yn, Yn, Yn, Yn, Yn, Yn, Yn, Yn, Yn, Yn, Yn, Yn, Yn, Yn, Yn, Yn, Yn, Yn, Yn, Yn, Yn, Yn, Yn] rfl rfl (by kernel_rfl) (fun _ _ _ h => h) (Or.inl ⟨by rfl, ?_⟩) ?_ ?_
 rotate_left
 ·intro w'
  go_simp
  with_reducible rfl
 rotate_left
 ·simp only [Act.put, List.setIfInBounds_toArray, List.set_cons_zero, List.set_cons_succ, i64_w, i32_w]
  rfl
 refine pure_ (i := 4) (N := some 150) (v := ?_) (a' := ?_) #[Y, Y, Y, Y, Y, Yn, Yn, Yn, Yn, Yn, Yn, Yn, Yn, Yn, Yn, Yn, Yn, Yn, Yn, Yn, Yn, Yn, Yn, Yn, Yn, Yn, Yn, Yn, Yn, Yn, Yn, Yn, Yn, Yn, Yn, Yn, Yn, Yn, Yn, Yn, Yn, Yn, Yn, Yn, Yn, Yn, Yn] rfl rfl (by kernel_rfl) (fun _ _ _ h => h) (Or.inl ⟨by rfl, ?_⟩) ?_ ?_
 rotate_left
 ·intro w'
  go_simp
  with_reducible rfl
 rotate_left
 ·simp only [Act.put, List.setIfInBounds_toArray, List.set_cons_zero, List.set_cons_succ, i64_w, i32_w]
  rfl
 refine pure_ (i := 5) (N := some 151) (v := ?_) (a' := ?_) #[Y, Y, Y, Y, Y, Y, Yn, Yn, Yn, Yn, Yn, Yn, Yn, Yn, Yn, Yn, Yn, Yn, Yn, Yn, Yn, Yn, Yn, Yn, Yn, Yn, Yn, Yn, Yn, Yn, Yn, Yn, Yn, Yn, Yn, Yn, Yn, Yn, Yn, Yn, Yn, Yn, Yn, Yn, Yn, Yn, Yn] rfl rfl (by kernel_rfl) (fun _ _ _ h => h) (Or.inl ⟨by rfl, ?_⟩) ?_ ?_
 rotate_left
 ·intro w'
  go_simp
  with_reducible rfl
 rotate_left
 ·simp only [Act.put, List.setIfInBounds_toArray, List.set_cons_zero, List.set_cons_succ, i64_w, i32_w]
  rfl
 refine pure_ (i := 6) (N := some 152) (v := ?_) (a' := ?_) #[Y, Y, Y, Y, Y, Y, Y, Yn, Yn, Yn, Yn, Yn, Yn, Yn, Yn, Yn, Yn, Yn, Yn, Yn, Yn, Yn, Yn, Yn, Yn, Yn, Yn, Yn, Yn, Yn, Yn, Yn, Yn, Yn, Yn, Yn, Yn, Yn, Yn, Yn, Yn, Yn, Yn, Yn, Yn, Yn, Yn] rfl rfl (by kernel_rfl) (fun _ _ _ h => h) (Or.inl ⟨by rfl, ?_⟩) ?_ ?_
 rotate_left
 ·intro w'
  go_simp
  with_reducible rfl
 rotate_left
 ·simp only [Act.put, List.setIfInBounds_toArray, List.set_cons_zero, List.set_cons_succ, i64_w, i32_w]
  rfl
 refine one_ (i := 7) (N := some 153) #[Y, Y, Y, Y, Y, Y, Y, Y, Yn, Yn, Yn, Yn, Yn, Yn, Yn, Yn, Yn, Yn, Yn, Yn, Yn, Yn, Yn, Yn, Yn, Yn, Yn, Yn, Yn, Yn, Yn, Yn, Yn, Yn, Yn, Yn, Yn, Yn, Yn, Yn, Yn, Yn, Yn, Yn, Yn, Yn, Yn] rfl rfl (by kernel_rfl) (by decide) (fun K hK => ?_)
 refine goes_ Tryd.func38 (by kernel_rfl) rfl #[.pointer (some ⟨gr, 0, none⟩)] (by rfl) rfl rfl (by simp only [List.map_toArray, List.map_cons, List.map_nil]; rfl) ?_
 with_reducible refine (stA _ gr _ HN13.out.rcv).mono ?_
 rintro e w14 ⟨rfl, rfl⟩
 refine ⟨_, rfl, ?_⟩
 refine hK.out _ _ ⟨hHeld.1, hHeld.2⟩ (fun hHeld => ?_)
 clear hK K
 refine norm_ (a' := ?_) ?_ ?_
 rotate_left
 ·show Act.put _ (some 153) _ = _
  simp only [Act.put, List.setIfInBounds_toArray, List.set_cons_zero, List.set_cons_succ, i64_w, i32_w]
  rfl
 refine pure_ (i := 8) (N := some 154) (v := ?_) (a' := ?_) #[Y, Y, Y, Y, Y, Y, Y, Y, Y, Yn, Yn, Yn, Yn, Yn, Yn, Yn, Yn, Yn, Yn, Yn, Yn, Yn, Yn, Yn, Yn, Yn, Yn, Yn, Yn, Yn, Yn, Yn, Yn, Yn, Yn, Yn, Yn, Yn, Yn, Yn, Yn, Yn, Yn, Yn, Yn, Yn, Yn] rfl rfl (by kernel_rfl) (fun _ _ _ h => h) (Or.inl ⟨by rfl, ?_⟩) ?_ ?_
 rotate_left
 ·intro w'
  go_simp
  with_reducible rfl
 rotate_left
 ·simp only [Act.put, List.setIfInBounds_toArray, List.set_cons_zero, List.set_cons_succ, i64_w, i32_w]
  rfl
 refine pure_ (i := 9) (N := some 155) (v := ?_) (a' := ?_) #[Y, Y, Y, Y, Y, Y, Y, Y, Y, Y, Yn, Yn, Yn, Yn, Yn, Yn, Yn, Yn, Yn, Yn, Yn, Yn, Yn, Yn, Yn, Yn, Yn, Yn, Yn, Yn, Yn, Yn, Yn, Yn, Yn, Yn, Yn, Yn, Yn, Yn, Yn, Yn, Yn, Yn, Yn, Yn, Yn] rfl rfl (by kernel_rfl) (fun _ _ _ h => h) (Or.inl ⟨by rfl, ?_⟩) ?_ ?_
 rotate_left
 ·intro w'
  go_simp
  with_reducible rfl
 rotate_left
 ·simp only [Act.put, List.setIfInBounds_toArray, List.set_cons_zero, List.set_cons_succ, i64_w, i32_w]
  rfl
 refine pure_ (i := 10) (N := some 156) (v := ?_) (a' := ?_) #[Y, Y, Y, Y, Y, Y, Y, Y, Y, Y, Y, Yn, Yn, Yn, Yn, Yn, Yn, Yn, Yn, Yn, Yn, Yn, Yn, Yn, Yn, Yn, Yn, Yn, Yn, Yn, Yn, Yn, Yn, Yn, Yn, Yn, Yn, Yn, Yn, Yn, Yn, Yn, Yn, Yn, Yn, Yn, Yn] rfl rfl (by kernel_rfl) (fun _ _ _ h => h) (Or.inl ⟨by rfl, ?_⟩) ?_ ?_
 rotate_left
 ·intro w'
  go_simp
  with_reducible rfl
 rotate_left
 ·simp only [Act.put, List.setIfInBounds_toArray, List.set_cons_zero, List.set_cons_succ, i64_w, i32_w]
  rfl
 refine pure_ (i := 11) (N := some 157) (v := ?_) (a' := ?_) #[Y, Y, Y, Y, Y, Y, Y, Y, Y, Y, Y, Y, Yn, Yn, Yn, Yn, Yn, Yn, Yn, Yn, Yn, Yn, Yn, Yn, Yn, Yn, Yn, Yn, Yn, Yn, Yn, Yn, Yn, Yn, Yn, Yn, Yn, Yn, Yn, Yn, Yn, Yn, Yn, Yn, Yn, Yn, Yn] rfl rfl (by kernel_rfl) (fun _ _ _ h => h) (Or.inl ⟨by rfl, ?_⟩) ?_ ?_
 rotate_left
 ·intro w'
  go_simp
  with_reducible rfl
 rotate_left
 ·simp only [Act.put, List.setIfInBounds_toArray, List.set_cons_zero, List.set_cons_succ, i64_w, i32_w]
  rfl
 refine one_ (i := 12) (N := some 158) #[Y, Y, Y, Y, Y, Y, Y, Y, Y, Y, Y, Y, Y, Yn, Yn, Yn, Yn, Yn, Yn, Yn, Yn, Yn, Yn, Yn, Yn, Yn, Yn, Yn, Yn, Yn, Yn, Yn, Yn, Yn, Yn, Yn, Yn, Yn, Yn, Yn, Yn, Yn, Yn, Yn, Yn, Yn, Yn] rfl rfl (by kernel_rfl) (by decide) (fun K hK => ?_)
 refine goes_ Tryd.func29 (by kernel_rfl) rfl #[.pointer (some ⟨gs, 0, none⟩)] (by rfl) rfl rfl (by simp only [List.map_toArray, List.map_cons, List.map_nil]; rfl) ?_
 with_reducible refine (ssA gs ws _ HN13.out.snd).mono ?_
 rintro e w15 ⟨rfl, rfl⟩
 refine ⟨_, rfl, ?_⟩
 refine hK.out _ _ ⟨hHeld.1, hHeld.2⟩ (fun hHeld => ?_)
 clear hK K
 refine norm_ (a' := ?_) ?_ ?_
 rotate_left
 ·show Act.put _ (some 158) _ = _
  simp only [Act.put, List.setIfInBounds_toArray, List.set_cons_zero, List.set_cons_succ, i64_w, i32_w]
  rfl
 refine pure_ (i := 13) (N := some 159) (v := ?_) (a' := ?_) #[Y, Y, Y, Y, Y, Y, Y, Y, Y, Y, Y, Y, Y, Y, Yn, Yn, Yn, Yn, Yn, Yn, Yn, Yn, Yn, Yn, Yn, Yn, Yn, Yn, Yn, Yn, Yn, Yn, Yn, Yn, Yn, Yn, Yn, Yn, Yn, Yn, Yn, Yn, Yn, Yn, Yn, Yn, Yn] rfl rfl (by kernel_rfl) (fun _ _ _ h => h) (Or.inl ⟨by rfl, ?_⟩) ?_ ?_
 rotate_left
 ·intro w'
  go_simp
  with_reducible rfl
 rotate_left
 ·simp only [Act.put, List.setIfInBounds_toArray, List.set_cons_zero, List.set_cons_succ, i64_w, i32_w]
  rfl
 refine pure_ (i := 14) (N := some 160) (v := ?_) (a' := ?_) #[Y, Y, Y, Y, Y, Y, Y, Y, Y, Y, Y, Y, Y, Y, Y, Yn, Yn, Yn, Yn, Yn, Yn, Yn, Yn, Yn, Yn, Yn, Yn, Yn, Yn, Yn, Yn, Yn, Yn, Yn, Yn, Yn, Yn, Yn, Yn, Yn, Yn, Yn, Yn, Yn, Yn, Yn, Yn] rfl rfl (by kernel_rfl) (fun _ _ _ h => h) (Or.inl ⟨by rfl, ?_⟩) ?_ ?_
 rotate_left
 ·intro w'
  go_simp
  with_reducible rfl
 rotate_left
 ·simp only [Act.put, List.setIfInBounds_toArray, List.set_cons_zero, List.set_cons_succ, i64_w, i32_w]
  rfl
 refine pure_ (i := 15) (N := some 161) (v := ?_) (a' := ?_) #[Y, Y, Y, Y, Y, Y, Y, Y, Y, Y, Y, Y, Y, Y, Y, Y, Yn, Yn, Yn, Yn, Yn, Yn, Yn, Yn, Yn, Yn, Yn, Yn, Yn, Yn, Yn, Yn, Yn, Yn, Yn, Yn, Yn, Yn, Yn, Yn, Yn, Yn, Yn, Yn, Yn, Yn, Yn] rfl rfl (by kernel_rfl) (fun _ _ _ h => h) (Or.inl ⟨by rfl, ?_⟩) ?_ ?_
 rotate_left
 ·intro w'
  go_simp
  with_reducible rfl
 rotate_left
 ·simp only [Act.put, List.setIfInBounds_toArray, List.set_cons_zero, List.set_cons_succ, i64_w, i32_w]
  rfl
 refine pure_ (i := 16) (N := some 162) (v := ?_) (a' := ?_) #[Y, Y, Y, Y, Y, Y, Y, Y, Y, Y, Y, Y, Y, Y, Y, Y, Y, Yn, Yn, Yn, Yn, Yn, Yn, Yn, Yn, Yn, Yn, Yn, Yn, Yn, Yn, Yn, Yn, Yn, Yn, Yn, Yn, Yn, Yn, Yn, Yn, Yn, Yn, Yn, Yn, Yn, Yn] rfl rfl (by kernel_rfl) (fun _ _ _ h => h) (Or.inl ⟨by rfl, ?_⟩) ?_ ?_
 rotate_left
 ·intro w'
  go_simp
  with_reducible rfl
 rotate_left
 ·simp only [Act.put, List.setIfInBounds_toArray, List.set_cons_zero, List.set_cons_succ, i64_w, i32_w]
  rfl
 refine pure_ (i := 17) (N := some 163) (v := ?_) (a' := ?_) #[Y, Y, Y, Y, Y, Y, Y, Y, Y, Y, Y, Y, Y, Y, Y, Y, Y, Y, Yn, Yn, Yn, Yn, Yn, Yn, Yn, Yn, Yn, Yn, Yn, Yn, Yn, Yn, Yn, Yn, Yn, Yn, Yn, Yn, Yn, Yn, Yn, Yn, Yn, Yn, Yn, Yn, Yn] rfl rfl (by kernel_rfl) (fun _ _ _ h => h) (Or.inl ⟨by rfl, ?_⟩) ?_ ?_
 rotate_left
 ·intro w'
  go_simp
  with_reducible rfl
 rotate_left
 ·simp only [Act.put, List.setIfInBounds_toArray, List.set_cons_zero, List.set_cons_succ, i64_w, i32_w]
  rfl
 refine pure_ (i := 18) (N := some 164) (v := ?_) (a' := ?_) #[Y, Y, Y, Y, Y, Y, Y, Y, Y, Y, Y, Y, Y, Y, Y, Y, Y, Y, Y, Yn, Yn, Yn, Yn, Yn, Yn, Yn, Yn, Yn, Yn, Yn, Yn, Yn, Yn, Yn, Yn, Yn, Yn, Yn, Yn, Yn, Yn, Yn, Yn, Yn, Yn, Yn, Yn] rfl rfl (by kernel_rfl) (fun _ _ _ h => h) (Or.inl ⟨by rfl, ?_⟩) ?_ ?_
 rotate_left
 ·intro w'
  go_simp
  with_reducible rfl
 rotate_left
 ·simp only [Act.put, List.setIfInBounds_toArray, List.set_cons_zero, List.set_cons_succ, i64_w, i32_w]
  rfl
 refine pure_ (i := 19) (N := some 165) (v := ?_) (a' := ?_) #[Y, Y, Y, Y, Y, Y, Y, Y, Y, Y, Y, Y, Y, Y, Y, Y, Y, Y, Y, Y, Yn, Yn, Yn, Yn, Yn, Yn, Yn, Yn, Yn, Yn, Yn, Yn, Yn, Yn, Yn, Yn, Yn, Yn, Yn, Yn, Yn, Yn, Yn, Yn, Yn, Yn, Yn] rfl rfl (by kernel_rfl) (fun _ _ _ h => h) (Or.inl ⟨by rfl, ?_⟩) ?_ ?_
 rotate_left
 ·intro w'
  go_simp
  with_reducible rfl
 rotate_left
 ·simp only [Act.put, List.setIfInBounds_toArray, List.set_cons_zero, List.set_cons_succ, i64_w, i32_w]
  rfl
 refine pure_ (i := 20) (N := some 166) (v := ?_) (a' := ?_) #[Y, Y, Y, Y, Y, Y, Y, Y, Y, Y, Y, Y, Y, Y, Y, Y, Y, Y, Y, Y, Y, Yn, Yn, Yn, Yn, Yn, Yn, Yn, Yn, Yn, Yn, Yn, Yn, Yn, Yn, Yn, Yn, Yn, Yn, Yn, Yn, Yn, Yn, Yn, Yn, Yn, Yn] rfl rfl (by kernel_rfl) (fun _ _ _ h => h) (Or.inl ⟨by rfl, ?_⟩) ?_ ?_
 rotate_left
 ·intro w'
  go_simp
  with_reducible rfl
 rotate_left
 ·simp only [Act.put, List.setIfInBounds_toArray, List.set_cons_zero, List.set_cons_succ, i64_w, i32_w]
  rfl
 refine pure_ (i := 21) (N := some 167) (v := ?_) (a' := ?_) #[Y, Y, Y, Y, Y, Y, Y, Y, Y, Y, Y, Y, Y, Y, Y, Y, Y, Y, Y, Y, Y, Y, Yn, Yn, Yn, Yn, Yn, Yn, Yn, Yn, Yn, Yn, Yn, Yn, Yn, Yn, Yn, Yn, Yn, Yn, Yn, Yn, Yn, Yn, Yn, Yn, Yn] rfl rfl (by kernel_rfl) (fun _ _ _ h => h) (Or.inl ⟨by rfl, ?_⟩) ?_ ?_
 rotate_left
 ·intro w'
  go_simp
  with_reducible rfl
 rotate_left
 ·simp only [Act.put, List.setIfInBounds_toArray, List.set_cons_zero, List.set_cons_succ, i64_w, i32_w]
  rfl
 refine pure_ (i := 22) (N := some 168) (v := ?_) (a' := ?_) #[Y, Y, Y, Y, Y, Y, Y, Y, Y, Y, Y, Y, Y, Y, Y, Y, Y, Y, Y, Y, Y, Y, Y, Yn, Yn, Yn, Yn, Yn, Yn, Yn, Yn, Yn, Yn, Yn, Yn, Yn, Yn, Yn, Yn, Yn, Yn, Yn, Yn, Yn, Yn, Yn, Yn] rfl rfl (by kernel_rfl) (fun _ _ _ h => h) (Or.inl ⟨by rfl, ?_⟩) ?_ ?_
 rotate_left
 ·intro w'
  go_simp
  with_reducible rfl
 rotate_left
 ·simp only [Act.put, List.setIfInBounds_toArray, List.set_cons_zero, List.set_cons_succ, i64_w, i32_w]
  rfl
 refine pure_ (i := 23) (N := some 169) (v := ?_) (a' := ?_) #[Y, Y, Y, Y, Y, Y, Y, Y, Y, Y, Y, Y, Y, Y, Y, Y, Y, Y, Y, Y, Y, Y, Y, Y, Yn, Yn, Yn, Yn, Yn, Yn, Yn, Yn, Yn, Yn, Yn, Yn, Yn, Yn, Yn, Yn, Yn, Yn, Yn, Yn, Yn, Yn, Yn] rfl rfl (by kernel_rfl) (fun _ _ _ h => h) (Or.inl ⟨by rfl, ?_⟩) ?_ ?_
 rotate_left
 ·intro w'
  go_simp
  with_reducible rfl
 rotate_left
 ·simp only [Act.put, List.setIfInBounds_toArray, List.set_cons_zero, List.set_cons_succ, i64_w, i32_w]
  rfl
 refine pure_ (i := 25) (N := some 171) (v := ?_) (a' := ?_) #[Y, Y, Y, Y, Y, Y, Y, Y, Y, Y, Y, Y, Y, Y, Y, Y, Y, Y, Y, Y, Y, Y, Y, Y, Yn, Y, Yn, Yn, Yn, Yn, Yn, Yn, Yn, Yn, Yn, Yn, Yn, Yn, Yn, Yn, Yn, Yn, Yn, Yn, Yn, Yn, Yn] rfl rfl (by kernel_rfl) (fun _ _ _ h => h) (Or.inl ⟨by rfl, ?_⟩) ?_ ?_
 rotate_left
 ·intro w'
  go_simp
  with_reducible rfl
 rotate_left
 ·simp only [Act.put, List.setIfInBounds_toArray, List.set_cons_zero, List.set_cons_succ, i64_w, i32_w]
  rfl
 refine pure_ (i := 26) (N := some 172) (v := ?_) (a' := ?_) #[Y, Y, Y, Y, Y, Y, Y, Y, Y, Y, Y, Y, Y, Y, Y, Y, Y, Y, Y, Y, Y, Y, Y, Y, Yn, Y, Y, Yn, Yn, Yn, Yn, Yn, Yn, Yn, Yn, Yn, Yn, Yn, Yn, Yn, Yn, Yn, Yn, Yn, Yn, Yn, Yn] rfl rfl (by kernel_rfl) (fun _ _ _ h => h) (Or.inl ⟨by rfl, ?_⟩) ?_ ?_
 rotate_left
 ·intro w'
  go_simp
  with_reducible rfl
 rotate_left
 ·simp only [Act.put, List.setIfInBounds_toArray, List.set_cons_zero, List.set_cons_succ, i64_w, i32_w]
  rfl
 refine take_ (i := 24) (N := some 170) (v := .agg #[.int .i64 1, .int .i64 5, .int .i64 0, .bool true, .int .i64 2, .string ⟨#[97, 98, 99]⟩]) (a' := ?_) #[Y, Y, Y, Y, Y, Y, Y, Y, Y, Y, Y, Y, Y, Y, Y, Y, Y, Y, Y, Y, Y, Y, Y, Y, Y, Y, Y, Yn, Yn, Yn, Yn, Yn, Yn, Yn, Yn, Yn, Yn, Yn, Yn, Yn, Yn, Yn, Yn, Yn, Yn, Yn, Yn] rfl rfl (by kernel_rfl) (fun _ _ _ h => h) (yieldsIf_load_at (by rfl) 23 (.tmp 16) rfl ⟨gx, 0, none⟩ rfl [.int .i64 1, .int .i64 5, .int .i64 0, .bool true, .int .i64 2, .string ⟨#[97, 98, 99]⟩] _ (fun _ h => h.2) Tryd.underlying23 rfl (by kernel_rfl)) hHeld ?_ ?_
 rotate_left
 ·simp only [Act.put, List.setIfInBounds_toArray, List.set_cons_zero, List.set_cons_succ, i64_w, i32_w]
  rfl
 refine take_ (i := 27) (N := some 173) (v := .agg #[.int .i64 1, .int .i64 5, .int .i64 0, .bool true, .int .i64 2, .string ⟨#[97, 98, 99]⟩]) (a' := ?_) #[Y, Y, Y, Y, Y, Y, Y, Y, Y, Y, Y, Y, Y, Y, Y, Y, Y, Y, Y, Y, Y, Y, Y, Y, Y, Y, Y, Y, Yn, Yn, Yn, Yn, Yn, Yn, Yn, Yn, Yn, Yn, Yn, Yn, Yn, Yn, Yn, Yn, Yn, Yn, Yn] rfl rfl (by kernel_rfl) (fun _ _ _ h => h) (yieldsIf_load_at (by rfl) 23 (.tmp 172) rfl ada rfl [.int .i64 1, .int .i64 5, .int .i64 0, .bool true, .int .i64 2, .string ⟨#[97, 98, 99]⟩] _ (fun _ h => h.1) Tryd.underlying23 rfl (by kernel_rfl)) hHeld ?_ ?_
 rotate_left
 ·simp only [Act.put, List.setIfInBounds_toArray, List.set_cons_zero, List.set_cons_succ, i64_w, i32_w]
  rfl
 refine pure_ (i := 28) (N := some 174) (v := ?_) (a' := ?_) #[Y, Y, Y, Y, Y, Y, Y, Y, Y, Y, Y, Y, Y, Y, Y, Y, Y, Y, Y, Y, Y, Y, Y, Y, Y, Y, Y, Y, Y, Yn, Yn, Yn, Yn, Yn, Yn, Yn, Yn, Yn, Yn, Yn, Yn, Yn, Yn, Yn, Yn, Yn, Yn] rfl rfl (by kernel_rfl) (fun _ _ _ h => h) (Or.inl ⟨by rfl, ?_⟩) ?_ ?_
 rotate_left
 ·intro w'
  go_simp
  with_reducible rfl
 rotate_left
 ·simp only [Act.put, List.setIfInBounds_toArray, List.set_cons_zero, List.set_cons_succ, i64_w, i32_w]
  rfl
 refine pure_ (i := 29) (N := some 175) (v := ?_) (a' := ?_) #[Y, Y, Y, Y, Y, Y, Y, Y, Y, Y, Y, Y, Y, Y, Y, Y, Y, Y, Y, Y, Y, Y, Y, Y, Y, Y, Y, Y, Y, Y, Yn, Yn, Yn, Yn, Yn, Yn, Yn, Yn, Yn, Yn, Yn, Yn, Yn, Yn, Yn, Yn, Yn] rfl rfl (by kernel_rfl) (fun _ _ _ h => h) (Or.inl ⟨by rfl, ?_⟩) ?_ ?_
 rotate_left
 ·intro w'
  go_simp
  with_reducible rfl
 rotate_left
 ·simp only [Act.put, List.setIfInBounds_toArray, List.set_cons_zero, List.set_cons_succ, i64_w, i32_w]
  rfl
 refine pure_ (i := 30) (N := some 176) (v := ?_) (a' := ?_) #[Y, Y, Y, Y, Y, Y, Y, Y, Y, Y, Y, Y, Y, Y, Y, Y, Y, Y, Y, Y, Y, Y, Y, Y, Y, Y, Y, Y, Y, Y, Y, Yn, Yn, Yn, Yn, Yn, Yn, Yn, Yn, Yn, Yn, Yn, Yn, Yn, Yn, Yn, Yn] rfl rfl (by kernel_rfl) (fun _ _ _ h => h) (Or.inl ⟨by rfl, ?_⟩) ?_ ?_
 rotate_left
 ·intro w'
  go_simp
  with_reducible rfl
 rotate_left
 ·simp only [Act.put, List.setIfInBounds_toArray, List.set_cons_zero, List.set_cons_succ, i64_w, i32_w]
  rfl
 refine take_ (i := 31) (N := some 177) (v := .agg #[.int .i64 1, .int .i64 5, .int .i64 0, .bool true, .int .i64 2, .string ⟨#[97, 98, 99]⟩]) (a' := ?_) #[Y, Y, Y, Y, Y, Y, Y, Y, Y, Y, Y, Y, Y, Y, Y, Y, Y, Y, Y, Y, Y, Y, Y, Y, Y, Y, Y, Y, Y, Y, Y, Y, Yn, Yn, Yn, Yn, Yn, Yn, Yn, Yn, Yn, Yn, Yn, Yn, Yn, Yn, Yn] rfl rfl (by kernel_rfl) (fun _ _ _ h => h) (yieldsIf_load_at (by rfl) 23 (.tmp 16) rfl ⟨gx, 0, none⟩ rfl [.int .i64 1, .int .i64 5, .int .i64 0, .bool true, .int .i64 2, .string ⟨#[97, 98, 99]⟩] _ (fun _ h => h.2) Tryd.underlying23 rfl (by kernel_rfl)) hHeld ?_ ?_
 rotate_left
 ·simp only [Act.put, List.setIfInBounds_toArray, List.set_cons_zero, List.set_cons_succ, i64_w, i32_w]
  rfl
 refine one_ (i := 32) (N := some 178) #[Y, Y, Y, Y, Y, Y, Y, Y, Y, Y, Y, Y, Y, Y, Y, Y, Y, Y, Y, Y, Y, Y, Y, Y, Y, Y, Y, Y, Y, Y, Y, Y, Y, Yn, Yn, Yn, Yn, Yn, Yn, Yn, Yn, Yn, Yn, Yn, Yn, Yn, Yn] rfl rfl (by kernel_rfl) (by decide) (fun K hK => ?_)
 refine goes_ Tryd.func16 (by kernel_rfl) rfl #[.agg #[.int .i64 1, .int .i64 5, .int .i64 0, .bool true, .int .i64 2, .string ⟨#[97, 98, 99]⟩]] (by rfl) rfl rfl (by simp only [List.map_toArray, List.map_cons, List.map_nil]; rfl) ?_
 with_reducible refine (segment_Check.calls 40 1 5 0 true 2 ⟨#[97, 98, 99]⟩ 0 _ (Glob.below HG.out HN13.out.base) chkA).mono ?_
 rintro e w16 ⟨rfl, hb_⟩
 refine ⟨_, rfl, ?_⟩
 have HN16 := Aside0.mk (HN13.out.below hb_)
 have HPa16 := Aside0.mk (HPa13.out.keep (Keep23.of_below hb_))
 have HX16 := Aside0.mk (blk_below HX13.out hb_)
 have hb_ := Aside0.mk hb_
 refine hK.out _ _ ⟨hHeld.1.below hb_.out, hHeld.2.below hb_.out⟩ (fun hHeld => ?_)
 clear hK K
 refine norm_ (a' := ?_) ?_ ?_
 rotate_left
 ·show Act.put _ (some 178) _ = _
  simp only [Act.put, List.setIfInBounds_toArray, List.set_cons_zero, List.set_cons_succ, i64_w, i32_w]
  rfl
 refine pure_ (i := 33) (N := some 179) (v := ?_) (a' := ?_) #[Y, Y, Y, Y, Y, Y, Y, Y, Y, Y, Y, Y, Y, Y, Y, Y, Y, Y, Y, Y, Y, Y, Y, Y, Y, Y, Y, Y, Y, Y, Y, Y, Y, Y, Yn, Yn, Yn, Yn, Yn, Yn, Yn, Yn, Yn, Yn, Yn, Yn, Yn] rfl rfl (by kernel_rfl) (fun _ _ _ h => h) (Or.inl ⟨by rfl, ?_⟩) ?_ ?_
 rotate_left
 ·intro w'
  go_simp
  with_reducible rfl
 rotate_left
 ·simp only [Act.put, List.setIfInBounds_toArray, List.set_cons_zero, List.set_cons_succ, i64_w, i32_w]
  rfl
 refine pure_ (i := 34) (N := some 180) (v := ?_) (a' := ?_) #[Y, Y, Y, Y, Y, Y, Y, Y, Y, Y, Y, Y, Y, Y, Y, Y, Y, Y, Y, Y, Y, Y, Y, Y, Y, Y, Y, Y, Y, Y, Y, Y, Y, Y, Y, Yn, Yn, Yn, Yn, Yn, Yn, Yn, Yn, Yn, Yn, Yn, Yn] rfl rfl (by kernel_rfl) (fun _ _ _ h => h) (Or.inl ⟨by rfl, ?_⟩) ?_ ?_
 rotate_left
 ·intro w'
  go_simp
  with_reducible rfl
 rotate_left
 ·simp only [Act.put, List.setIfInBounds_toArray, List.set_cons_zero, List.set_cons_succ, i64_w, i32_w]
  rfl
 refine pure_ (i := 35) (N := some 181) (v := ?_) (a' := ?_) #[Y, Y, Y, Y, Y, Y, Y, Y, Y, Y, Y, Y, Y, Y, Y, Y, Y, Y, Y, Y, Y, Y, Y, Y, Y, Y, Y, Y, Y, Y, Y, Y, Y, Y, Y, Y, Yn, Yn, Yn, Yn, Yn, Yn, Yn, Yn, Yn, Yn, Yn] rfl rfl (by kernel_rfl) (fun _ _ _ h => h) (Or.inl ⟨by rfl, ?_⟩) ?_ ?_
 rotate_left
 ·intro w'
  go_simp
  with_reducible rfl
 rotate_left
 ·simp only [Act.put, List.setIfInBounds_toArray, List.set_cons_zero, List.set_cons_succ, i64_w, i32_w]
  rfl
 refine pure_ (i := 36) (N := some 182) (v := ?_) (a' := ?_) #[Y, Y, Y, Y, Y, Y, Y, Y, Y, Y, Y, Y, Y, Y, Y, Y, Y, Y, Y, Y, Y, Y, Y, Y, Y, Y, Y, Y, Y, Y, Y, Y, Y, Y, Y, Y, Y, Yn, Yn, Yn, Yn, Yn, Yn, Yn, Yn, Yn, Yn] rfl rfl (by kernel_rfl) (fun _ _ _ h => h) (Or.inl ⟨by rfl, ?_⟩) ?_ ?_
 rotate_left
 ·intro w'
  go_simp
  with_reducible rfl
 rotate_left
 ·simp only [Act.put, List.setIfInBounds_toArray, List.set_cons_zero, List.set_cons_succ, i64_w, i32_w]
  rfl
 refine one_ (i := 37) (N := some 183) #[Y, Y, Y, Y, Y, Y, Y, Y, Y, Y, Y, Y, Y, Y, Y, Y, Y, Y, Y, Y, Y, Y, Y, Y, Y, Y, Y, Y, Y, Y, Y, Y, Y, Y, Y, Y, Y, Y, Yn, Yn, Yn, Yn, Yn, Yn, Yn, Yn, Yn] rfl rfl (by kernel_rfl) (by decide) (fun K hK => ?_)
 refine goes_ Tryd.func16 (by kernel_rfl) rfl #[.agg #[.int .i64 0, .int .i64 0, .int .i64 0, .bool false, .int .i64 0, .string ⟨#[]⟩]] (by rfl) rfl rfl (by simp only [List.map_toArray, List.map_cons, List.map_nil]; rfl) ?_
 with_reducible refine (segment_Check.calls 40 0 0 0 false 0 ⟨#[]⟩ 3 _ (Glob.below HG.out HN16.out.base) chkZ).mono ?_
 rintro e w16b ⟨rfl, hb2_⟩
 refine ⟨_, rfl, ?_⟩
 have HN16b := Aside0.mk (HN16.out.below hb2_)
 have HPa16b := Aside0.mk (HPa16.out.keep (Keep23.of_below hb2_))
 have HX16b := Aside0.mk (blk_below HX16.out hb2_)
 have hb2_ := Aside0.mk hb2_
 refine hK.out _ _ ⟨hHeld.1.below hb2_.out, hHeld.2.below hb2_.out⟩ (fun hHeld => ?_)
 clear hK K
 refine norm_ (a' := ?_) ?_ ?_
 rotate_left
 ·show Act.put _ (some 183) _ = _
  simp only [Act.put, List.setIfInBounds_toArray, List.set_cons_zero, List.set_cons_succ, i64_w, i32_w]
  rfl
 refine pure_ (i := 38) (N := some 184) (v := ?_) (a' := ?_) #[Y, Y, Y, Y, Y, Y, Y, Y, Y, Y, Y, Y, Y, Y, Y, Y, Y, Y, Y, Y, Y, Y, Y, Y, Y, Y, Y, Y, Y, Y, Y, Y, Y, Y, Y, Y, Y, Y, Y, Yn, Yn, Yn, Yn, Yn, Yn, Yn, Yn] rfl rfl (by kernel_rfl) (fun _ _ _ h => h) (Or.inl ⟨by rfl, ?_⟩) ?_ ?_
 rotate_left
 ·intro w'
  go_simp
  with_reducible rfl
 rotate_left
 ·simp only [Act.put, List.setIfInBounds_toArray, List.set_cons_zero, List.set_cons_succ, i64_w, i32_w]
  rfl
 refine pure_ (i := 39) (N := some 185) (v := ?_) (a' := ?_) #[Y, Y, Y, Y, Y, Y, Y, Y, Y, Y, Y, Y, Y, Y, Y, Y, Y, Y, Y, Y, Y, Y, Y, Y, Y, Y, Y, Y, Y, Y, Y, Y, Y, Y, Y, Y, Y, Y, Y, Y, Yn, Yn, Yn, Yn, Yn, Yn, Yn] rfl rfl (by kernel_rfl) (fun _ _ _ h => h) (Or.inl ⟨by rfl, ?_⟩) ?_ ?_
 rotate_left
 ·intro w'
  go_simp
  with_reducible rfl
 rotate_left
 ·simp only [Act.put, List.setIfInBounds_toArray, List.set_cons_zero, List.set_cons_succ, i64_w, i32_w]
  rfl
 refine pure_ (i := 40) (N := some 186) (v := ?_) (a' := ?_) #[Y, Y, Y, Y, Y, Y, Y, Y, Y, Y, Y, Y, Y, Y, Y, Y, Y, Y, Y, Y, Y, Y, Y, Y, Y, Y, Y, Y, Y, Y, Y, Y, Y, Y, Y, Y, Y, Y, Y, Y, Y, Yn, Yn, Yn, Yn, Yn, Yn] rfl rfl (by kernel_rfl) (fun _ _ _ h => h) (Or.inl ⟨by rfl, ?_⟩) ?_ ?_
 rotate_left
 ·intro w'
  go_simp
  with_reducible rfl
 rotate_left
 ·simp only [Act.put, List.setIfInBounds_toArray, List.set_cons_zero, List.set_cons_succ, i64_w, i32_w]
  rfl
 refine pure_ (i := 41) (N := some 187) (v := ?_) (a' := ?_) #[Y, Y, Y, Y, Y, Y, Y, Y, Y, Y, Y, Y, Y, Y, Y, Y, Y, Y, Y, Y, Y, Y, Y, Y, Y, Y, Y, Y, Y, Y, Y, Y, Y, Y, Y, Y, Y, Y, Y, Y, Y, Y, Yn, Yn, Yn, Yn, Yn] rfl rfl (by kernel_rfl) (fun _ _ _ h => h) (Or.inl ⟨by rfl, ?_⟩) ?_ ?_
 rotate_left
 ·intro w'
  go_simp
  with_reducible rfl
 rotate_left
 ·simp only [Act.put, List.setIfInBounds_toArray, List.set_cons_zero, List.set_cons_succ, i64_w, i32_w]
  rfl
 refine one_ (i := 42) (N := some 188) #[Y, Y, Y, Y, Y, Y, Y, Y, Y, Y, Y, Y, Y, Y, Y, Y, Y, Y, Y, Y, Y, Y, Y, Y, Y, Y, Y, Y, Y, Y, Y, Y, Y, Y, Y, Y, Y, Y, Y, Y, Y, Y, Y, Yn, Yn, Yn, Yn] rfl rfl (by kernel_rfl) (by decide) (fun K hK => ?_)
 refine goes_ Tryd.func32 (by kernel_rfl) rfl #[.pointer (some ⟨gr, 0, none⟩), .int .i64 1000] (by rfl) rfl rfl (by simp only [List.map_toArray, List.map_cons, List.map_nil]; rfl) ?_
 with_reducible refine (rtA w ws _ gs gr sA3 _ HN16b.out).mono ?_
 rintro e w17 ⟨A17, rfl, hn, hk⟩
 refine ⟨_, rfl, ?_⟩
 have HN17 := Aside0.mk hn
 clear hn
 refine hK.out _ _ ⟨(Pt.row (x := P0) (xs := [P1]) (HPa16b.out.keep hk) (by decide)), (row_blk (hk.keep _ _ HX16b.out))⟩ (fun hHeld => ?_)
 clear hK K
 refine norm_ (a' := ?_) ?_ ?_
 rotate_left
 ·show Act.put _ (some 188) _ = _
  simp only [Act.put, List.setIfInBounds_toArray, List.set_cons_zero, List.set_cons_succ, i64_w, i32_w]
  rfl
 refine pure_ (i := 43) (N := some 189) (v := ?_) (a' := ?_) #[Y, Y, Y, Y, Y, Y, Y, Y, Y, Y, Y, Y, Y, Y, Y, Y, Y, Y, Y, Y, Y, Y, Y, Y, Y, Y, Y, Y, Y, Y, Y, Y, Y, Y, Y, Y, Y, Y, Y, Y, Y, Y, Y, Y, Yn, Yn, Yn] rfl rfl (by kernel_rfl) (fun _ _ _ h => h) (Or.inl ⟨by rfl, ?_⟩) ?_ ?_
 rotate_left
 ·intro w'
  go_simp
  with_reducible rfl
 rotate_left
 ·simp only [Act.put, List.setIfInBounds_toArray, List.set_cons_zero, List.set_cons_succ, i64_w, i32_w]
  rfl
 refine pure_ (i := 44) (N := some 190) (v := ?_) (a' := ?_) #[Y, Y, Y, Y, Y, Y, Y, Y, Y, Y, Y, Y, Y, Y, Y, Y, Y, Y, Y, Y, Y, Y, Y, Y, Y, Y, Y, Y, Y, Y, Y, Y, Y, Y, Y, Y, Y, Y, Y, Y, Y, Y, Y, Y, Y, Yn, Yn] rfl rfl (by kernel_rfl) (fun _ _ _ h => h) (Or.inl ⟨by rfl, ?_⟩) ?_ ?_
 rotate_left
 ·intro w'
  go_simp
  with_reducible rfl
 rotate_left
 ·simp only [Act.put, List.setIfInBounds_toArray, List.set_cons_zero, List.set_cons_succ, i64_w, i32_w]
  rfl
 refine pure_ (i := 45) (N := some 191) (v := ?_) (a' := ?_) #[Y, Y, Y, Y, Y, Y, Y, Y, Y, Y, Y, Y, Y, Y, Y, Y, Y, Y, Y, Y, Y, Y, Y, Y, Y, Y, Y, Y, Y, Y, Y, Y, Y, Y, Y, Y, Y, Y, Y, Y, Y, Y, Y, Y, Y, Y, Yn] rfl rfl (by kernel_rfl) (fun _ _ _ h => h) (Or.inl ⟨by rfl, ?_⟩) ?_ ?_
 rotate_left
 ·intro w'
  go_simp
  with_reducible rfl
 rotate_left
 ·simp only [Act.put, List.setIfInBounds_toArray, List.set_cons_zero, List.set_cons_succ, i64_w, i32_w]
  rfl
 refine pure_ (i := 46) (N := some 0) (v := ?_) (a' := ?_) #[Y, Y, Y, Y, Y, Y, Y, Y, Y, Y, Y, Y, Y, Y, Y, Y, Y, Y, Y, Y, Y, Y, Y, Y, Y, Y, Y, Y, Y, Y, Y, Y, Y, Y, Y, Y, Y, Y, Y, Y, Y, Y, Y, Y, Y, Y, Y] rfl rfl (by kernel_rfl) (fun _ _ _ h => h) (Or.inl ⟨by rfl, ?_⟩) ?_ ?_
 rotate_left
 ·intro w'
  go_simp
  with_reducible rfl
 rotate_left
 ·simp only [Act.put, List.setIfInBounds_toArray, List.set_cons_zero, List.set_cons_succ, i64_w, i32_w]
  rfl
 refine done_ (by kernel_rfl) ?_
 go_wp2
 go_ret
 exact ⟨rfl, HN17.out.base⟩
end Go.Proofs.YtbgabhknmpbgiaaDoor.S
end
section
namespace Go.Proofs.YtbgabhknmpbgiaaDoor.S
open Go.RowKit Go.Proofs.YtbgabhknmpbgiaaDoorW.PrintWords Go.Proofs.YtbgabhknmpbgiaaDoorW.PrintLast Go.Proofs.YtbgabhknmpbgiaaDoorW.PrintMore
attribute [local go_sem] max2_int min2_int max_two min_two max_three min_three max_four min_four
set_option linter.unusedVariables false
set_option linter.unusedSimpArgs false
def plenumlaw49_part.f (a0_0 : Int) (a0_1 : Int) (a0_2 : Int) (a0_3 : Bool) (a0_4 : Int) (a0_5 : ByteArray) : Option (Int × Int × Int × Bool × Int × ByteArray) := some (a0_0, a0_1, a0_2, a0_3, a0_4, a0_5)
set_option maxHeartbeats 8000000 in
set_option maxRecDepth 100000 in
theorem plenumlaw49_part.calls (a0_0 : Int) (a0_1 : Int) (a0_2 : Int) (a0_3 : Bool) (a0_4 : Int) (a0_5 : ByteArray) (r1 : Int) (r2 : Int) (r3 : Int) (r4 : Bool) (r5 : Int) (r6 : ByteArray) (w : World) (hG : Glob w) (h : plenumlaw49_part.f a0_0 a0_1 a0_2 a0_3 a0_4 a0_5 = some (r1, r2, r3, r4, r5, r6)) :
  Calls Tryd.prog 12 #[.agg #[.int .i64 a0_0, .int .i64 a0_1, .int .i64 a0_2, .bool a0_3, .int .i64 a0_4, .string a0_5]] w fun e w' => e = .returned (.agg #[.int .i64 r1, .int .i64 r2, .int .i64 r3, .bool r4, .int .i64 r5, .string r6]) ∧ Below w.heap.size w w' := by
 have hu23 := Tryd.underlying23
 have hu27 := Tryd.underlying27
 have HG := Aside0.mk hG
 clear hG
 have HB := Aside0.mk (Below.refl w.heap.size w)
 have H : (some (a0_0, a0_1, a0_2, a0_3, a0_4, a0_5)) = some (r1, r2, r3, r4, r5, r6) := h
 clear h
 simp only [Option.some.injEq, Prod.mk.injEq] at H
 obtain ⟨rfl, rfl, rfl, rfl, rfl, rfl⟩ := H
 go_enter Tryd.func12, Tryd.ntmps12
 go_wp2_with (first | ((with_reducible refine gate_dst (N := 1) rfl ?_); refine box_event ?hg (N := 1) ?hd (cs := #[.int .i64 a0_0, .int .i64 a0_1, .int .i64 a0_2, .bool a0_3, .int .i64 a0_4, .string a0_5]) (t := 23) ?hr ?_; (case hd => rfl); (case hg => rfl); (case hr => first | (go_simp; done) | (go_simp; rfl)); intro gb174 hg w2 hbox hb; have n0_ := Aside0.mk (below_step (by repeat (first | (with_reducible first | exact HB.out | apply below_alloc | apply pw_below_drewN | apply below_drew1) | exact HB.out)) hb); have n1_ := Aside0.mk (hbox); have n2_ := Aside0.mk ((by rw [hg]; exact (below_size (by repeat (first | (with_reducible first | exact HB.out | apply below_alloc | apply pw_below_drewN | apply below_drew1) | exact HB.out))) : w.heap.size ≤ gb174)); have n3_ := Aside0.mk ((by rw [hg]; exact (below_size (by repeat (first | (with_reducible first | exact HB.out | apply below_alloc | apply pw_below_drewN | apply below_drew1) | exact HB.out))) : w.heap.size ≤ gb174)); clear HB; have HB := n0_; have BK174 := n1_; have GW174 := n2_; have GE174 := n3_; clear n0_ n1_ n2_ n3_; clear hb hbox hg) | ((with_reducible refine gate_dst (N := 2) rfl ?_); refine box_event ?hg (N := 2) ?hd (cs := #[.int .i64 0, .int .i64 0, .int .i64 0, .bool false, .int .i64 0, .string (⟨#[]⟩ : ByteArray)]) (t := 27) ?hr ?_; (case hd => rfl); (case hg => rfl); (case hr => first | (go_simp; done) | (go_simp; rfl)); intro gb175 hg w3 hbox hb; have n0_ := Aside0.mk (blk_below (g := gb174) (o := .cells #[.int .i64 a0_0, .int .i64 a0_1, .int .i64 a0_2, .bool a0_3, .int .i64 a0_4, .string a0_5] 23 (0, 0)) (by (with_reducible repeat (first | refine blk_drewN ?_ _ | refine blk_drew ?_ | refine blk_alloc ?_ _)); exact BK174.out) hb); have n1_ := Aside0.mk (below_step (by repeat (first | (with_reducible first | exact HB.out | apply below_alloc | apply pw_below_drewN | apply below_drew1 | refine below_set ?_ GE174.out) | exact HB.out)) hb); have n2_ := Aside0.mk (hbox); have n3_ := Aside0.mk ((by rw [hg]; exact (below_size (by repeat (first | (with_reducible first | exact HB.out | apply below_alloc | apply pw_below_drewN | apply below_drew1 | refine below_set ?_ GE174.out) | exact HB.out))) : w.heap.size ≤ gb175)); have n4_ := Aside0.mk ((by rw [hg]; exact (below_size (by repeat (first | (with_reducible first | exact HB.out | apply below_alloc | apply pw_below_drewN | apply below_drew1 | refine below_set ?_ GE174.out) | exact HB.out))) : w.heap.size ≤ gb175)); have n5_ := Aside0.mk ((by rw [hg]; exact Nat.ne_of_lt (blk_lt (g := gb174) (o := .cells #[.int .i64 a0_0, .int .i64 a0_1, .int .i64 a0_2, .bool a0_3, .int .i64 a0_4, .string a0_5] 23 (0, 0)) (by (with_reducible repeat (first | refine blk_drewN ?_ _ | refine blk_drew ?_ | refine blk_alloc ?_ _)); exact BK174.out)) : gb174 ≠ gb175)); have n6_ := Aside0.mk ((by rw [hg]; exact Nat.ne_of_gt (blk_lt (g := gb174) (o := .cells #[.int .i64 a0_0, .int .i64 a0_1, .int .i64 a0_2, .bool a0_3, .int .i64 a0_4, .string a0_5] 23 (0, 0)) (by (with_reducible repeat (first | refine blk_drewN ?_ _ | refine blk_drew ?_ | refine blk_alloc ?_ _)); exact BK174.out)) : gb175 ≠ gb174)); clear BK174; clear HB; have BK174 := n0_; have HB := n1_; have BK175 := n2_; have GW175 := n3_; have GE175 := n4_; have NB174_175 := n5_; have NB175_174 := n6_; clear n0_ n1_ n2_ n3_ n4_ n5_ n6_; clear hb hbox hg; have hnb4 := NB174_175.out; have hnc4 := NB175_174.out; have hcz5_0 : w3.cell? ⟨gb174, 0, none⟩ = some (.int .i64 a0_0) := (blk_cell BK174.out 0).trans rfl; have hcz5_1 : w3.cell? ⟨gb174, 1, none⟩ = some (.int .i64 a0_1) := (blk_cell BK174.out 1).trans rfl; have hcz5_2 : w3.cell? ⟨gb174, 2, none⟩ = some (.int .i64 a0_2) := (blk_cell BK174.out 2).trans rfl; have hcz5_3 : w3.cell? ⟨gb174, 3, none⟩ = some (.bool a0_3) := (blk_cell BK174.out 3).trans rfl; have hcz5_4 : w3.cell? ⟨gb174, 4, none⟩ = some (.int .i64 a0_4) := (blk_cell BK174.out 4).trans rfl; have hcz5_5 : w3.cell? ⟨gb174, 5, none⟩ = some (.string a0_5) := (blk_cell BK174.out 5).trans rfl; have hfz5_0 := blk_frozen BK174.out 0; have hfz5_1 := blk_frozen BK174.out 1; have hfz5_2 := blk_frozen BK174.out 2; have hfz5_3 := blk_frozen BK174.out 3; have hfz5_4 := blk_frozen BK174.out 4; have hfz5_5 := blk_frozen BK174.out 5; have hcz6_0 : w3.cell? ⟨gb175, 0, none⟩ = some (.int .i64 0) := (blk_cell BK175.out 0).trans rfl; have hcz6_1 : w3.cell? ⟨gb175, 1, none⟩ = some (.int .i64 0) := (blk_cell BK175.out 1).trans rfl; have hcz6_2 : w3.cell? ⟨gb175, 2, none⟩ = some (.int .i64 0) := (blk_cell BK175.out 2).trans rfl; have hcz6_3 : w3.cell? ⟨gb175, 3, none⟩ = some (.bool false) := (blk_cell BK175.out 3).trans rfl; have hcz6_4 : w3.cell? ⟨gb175, 4, none⟩ = some (.int .i64 0) := (blk_cell BK175.out 4).trans rfl; have hcz6_5 : w3.cell? ⟨gb175, 5, none⟩ = some (.string (⟨#[]⟩ : ByteArray)) := (blk_cell BK175.out 5).trans rfl; have hfz6_0 := blk_frozen BK175.out 0; have hfz6_1 := blk_frozen BK175.out 1; have hfz6_2 := blk_frozen BK175.out 2; have hfz6_3 := blk_frozen BK175.out 3; have hfz6_4 := blk_frozen BK175.out 4; have hfz6_5 := blk_frozen BK175.out 5))
 refine bodyPost_ret (results_cell_row rfl _ _ gb175 27 #[.int .i64 a0_0, .int .i64 a0_1, .int .i64 a0_2, .bool a0_3, .int .i64 a0_4, .string a0_5] (0, 0) _ rfl (by (with_reducible repeat (first | refine blk_drewN ?_ _ | refine blk_drew ?_ | refine blk_alloc ?_ _)); refine blk_put (cs := #[.int .i64 a0_0, .int .i64 a0_1, .int .i64 a0_2, .bool a0_3, .int .i64 a0_4, .string (⟨#[]⟩ : ByteArray)]) ?_ 5 _ rfl; (with_reducible repeat (first | refine blk_drewN ?_ _ | refine blk_drew ?_ | refine blk_alloc ?_ _)); refine blk_put (cs := #[.int .i64 a0_0, .int .i64 a0_1, .int .i64 a0_2, .bool a0_3, .int .i64 0, .string (⟨#[]⟩ : ByteArray)]) ?_ 4 _ rfl; (with_reducible repeat (first | refine blk_drewN ?_ _ | refine blk_drew ?_ | refine blk_alloc ?_ _)); refine blk_put (cs := #[.int .i64 a0_0, .int .i64 a0_1, .int .i64 a0_2, .bool false, .int .i64 0, .string (⟨#[]⟩ : ByteArray)]) ?_ 3 _ rfl; (with_reducible repeat (first | refine blk_drewN ?_ _ | refine blk_drew ?_ | refine blk_alloc ?_ _)); refine blk_put (cs := #[.int .i64 a0_0, .int .i64 a0_1, .int .i64 0, .bool false, .int .i64 0, .string (⟨#[]⟩ : ByteArray)]) ?_ 2 _ rfl; (with_reducible repeat (first | refine blk_drewN ?_ _ | refine blk_drew ?_ | refine blk_alloc ?_ _)); refine blk_put (cs := #[.int .i64 a0_0, .int .i64 0, .int .i64 0, .bool false, .int .i64 0, .string (⟨#[]⟩ : ByteArray)]) ?_ 1 _ rfl; (with_reducible repeat (first | refine blk_drewN ?_ _ | refine blk_drew ?_ | refine blk_alloc ?_ _)); refine blk_put (cs := #[.int .i64 0, .int .i64 0, .int .i64 0, .bool false, .int .i64 0, .string (⟨#[]⟩ : ByteArray)]) ?_ 0 _ rfl; (with_reducible repeat (first | refine blk_drewN ?_ _ | refine blk_drew ?_ | refine blk_alloc ?_ _)); exact BK175.out) Tryd.underlying27 rfl (by kernel_rfl)) rfl ?_
 exact ⟨by first | rfl | (simp [errW_none, errW_some] <;> rfl) | (simp [*, errW_none, errW_some] <;> rfl), by repeat (first | (with_reducible first | exact HB.out | apply below_alloc | apply pw_below_drewN | apply below_drew1 | refine below_set ?_ GE174.out | refine below_set ?_ GE175.out) | exact HB.out)⟩
end Go.Proofs.YtbgabhknmpbgiaaDoor.S
end
section
namespace Go.Proofs.YtbgabhknmpbgiaaDoor.S
open Go.RowKit Go.Proofs.YtbgabhknmpbgiaaDoor.Pure Go.Proofs.YtbgabhknmpbgiaaDoorW.PrintWords Go.Proofs.YtbgabhknmpbgiaaDoorW.PrintLast Go.Proofs.YtbgabhknmpbgiaaDoorW.PrintMore
set_option linter.unusedVariables false
set_option linter.unusedSimpArgs false
attribute [local go_sem] max2_int min2_int max_two min_two
def plenumlaw49_SegmentParts.f (k : Nat) (a0_0 : Int) (a0_1 : Int) (a0_2 : Int) (a0_3 : Bool) (a0_4 : Int) (a0_5 : ByteArray) (a1 : ByteArray) : Option (Bool) := some true
set_option maxHeartbeats 16000000 in
set_option maxRecDepth 100000 in
theorem parts_walk (f0 f1 f2 : Int) (f3 : Bool) (f4 : Int) (f5 : ByteArray) (s : ByteArray) (w : World) (hG : Glob w) :
  Calls Tryd.prog 3 #[.agg #[.int .i64 f0, .int .i64 f1, .int .i64 f2, .bool f3, .int .i64 f4, .string f5], .string s] w fun e w' => e = .returned (.bool true) ∧ Below w.heap.size w w' := by
 have HG := Aside0.mk hG
 clear hG
 by_cases h1 : 1000 < (f5.size : Int)
 ·have b1 : decide (1000 < (f5.size : Int)) = true := decide_eq_true h1
  have b2 : decide (1000 < f5.size) = true := decide_eq_true (by omega)
  clear h1
  go_enter Tryd.func3, Tryd.ntmps3
  go_wp2_with (first | ((with_reducible refine gate_dst (N := 2) rfl ?_); refine box_event ?hg (N := 2) ?hd (cs := #[.int .i64 f0, .int .i64 f1, .int .i64 f2, .bool f3, .int .i64 f4, .string f5]) (t := 23) ?hr ?_; (case hd => rfl); (case hg => rfl); (case hr => first | (go_simp; done) | (go_simp; rfl)); intro gb hgb w0 hbox hb; have HX0 := Aside0.mk hbox; have HB0 := Aside0.mk hb; clear hb hbox hgb) | (go_at_call 10; (with_reducible refine (awake_calls _ (Glob.below HG.out HB0.out)).mono ?_); rintro e w1 ⟨rfl, hb⟩; have HB1 := Aside0.mk (below_step HB0.out hb); have HX1 := Aside0.mk (blk_below HX0.out hb); have x0 := (blk_cell HX1.out 0).trans rfl; have x1 := (blk_cell HX1.out 1).trans rfl; have x2 := (blk_cell HX1.out 2).trans rfl; have x3 := (blk_cell HX1.out 3).trans rfl; have x4 := (blk_cell HX1.out 4).trans rfl; have x5 := (blk_cell HX1.out 5).trans rfl;  clear hb))
  go_ret
  exact ⟨rfl, HB1.out⟩
 by_cases h2 : 1000 < (s.size : Int)
 ·have b1 : decide (1000 < (f5.size : Int)) = false := decide_eq_false h1
  have b2 : decide (1000 < f5.size) = false := decide_eq_false (by omega)
  have b3 : decide (1000 < (s.size : Int)) = true := decide_eq_true h2
  have b4 : decide (1000 < s.size) = true := decide_eq_true (by omega)
  clear h1 h2
  go_enter Tryd.func3, Tryd.ntmps3
  go_wp2_with (first | ((with_reducible refine gate_dst (N := 2) rfl ?_); refine box_event ?hg (N := 2) ?hd (cs := #[.int .i64 f0, .int .i64 f1, .int .i64 f2, .bool f3, .int .i64 f4, .string f5]) (t := 23) ?hr ?_; (case hd => rfl); (case hg => rfl); (case hr => first | (go_simp; done) | (go_simp; rfl)); intro gb hgb w0 hbox hb; have HX0 := Aside0.mk hbox; have HB0 := Aside0.mk hb; clear hb hbox hgb) | (go_at_call 10; (with_reducible refine (awake_calls _ (Glob.below HG.out HB0.out)).mono ?_); rintro e w1 ⟨rfl, hb⟩; have HB1 := Aside0.mk (below_step HB0.out hb); have HX1 := Aside0.mk (blk_below HX0.out hb); have x0 := (blk_cell HX1.out 0).trans rfl; have x1 := (blk_cell HX1.out 1).trans rfl; have x2 := (blk_cell HX1.out 2).trans rfl; have x3 := (blk_cell HX1.out 3).trans rfl; have x4 := (blk_cell HX1.out 4).trans rfl; have x5 := (blk_cell HX1.out 5).trans rfl;  clear hb))
  go_ret
  exact ⟨rfl, HB1.out⟩
 have b1 : decide (1000 < (f5.size : Int)) = false := decide_eq_false h1
 have b2 : decide (1000 < f5.size) = false := decide_eq_false (by omega)
 have b3 : decide (1000 < (s.size : Int)) = false := decide_eq_false h2
 have b4 : decide (1000 < s.size) = false := decide_eq_false (by omega)
 obtain ⟨⟨d0, d1, d2, d3, d4, d5, de⟩, HDE⟩ : ∃ d, Aside0 (decA s = d) := ⟨_, ⟨rfl⟩⟩
 have HDP := Aside0.mk (show segment_Decode.f s = some (d0, d1, d2, d3, d4, d5, de) by rw [← HDE.out]; exact decP s (by omega))
 have HDR := Aside0.mk (show plenumref49_Decode.f s = some (d0, d1, d2, d3, d4, d5, de) by rw [← HDE.out]; unfold plenumref49_Decode.f; rw [if_pos (by omega)])
 obtain ⟨ce, HCE⟩ : ∃ c, Aside0 (chk f0 f1 f2 f3 f4 f5 = c) := ⟨_, ⟨rfl⟩⟩
 have HCR := Aside0.mk (show plenumref49_Check.f 40 f0 f1 f2 f3 f4 f5 = some ce by rw [← HCE.out]; exact chkR 36 f0 f1 f2 f3 f4 f5)
 have HCP := Aside0.mk (show segment_Check.f 40 f0 f1 f2 f3 f4 f5 = some ce by rw [← HCE.out]; exact chkP 36 f0 f1 f2 f3 f4 f5)
 clear h1 h2
 by_cases hz : ce = 0
 ·have HZ := Aside0.mk hz
  have HC0 := Aside0.mk (show chk f0 f1 f2 f3 f4 f5 = 0 by rw [HCE.out]; exact hz)
  clear hz
  obtain ⟨xe, HXE⟩ : ∃ x, Aside0 (strOfNums (encB ⟨f0, f1, f2, f3, f4, f5⟩) = x) := ⟨_, ⟨rfl⟩⟩
  have HEN := Aside0.mk (show segment_Encode.f f0 f1 f2 f3 f4 f5 = some (xe, ce) by rw [HZ.out, ← HXE.out]; exact encP f0 f1 f2 f3 f4 f5 HC0.out)
  have HDB := Aside0.mk (show segment_Decode.f xe = some (f0, f1, f2, f3, f4, f5, 0) by rw [← HXE.out]; exact decBack f0 f1 f2 f3 f4 f5 HC0.out)
  have HRE := Aside0.mk (show plenumref49_Encode.f 40 f0 f1 f2 f3 f4 f5 = some xe by rw [← HXE.out]; exact encRc f0 f1 f2 f3 f4 f5 HC0.out)
  have cb : (ce != 0) = false := by rw [HZ.out]; rfl
  go_enter Tryd.func3, Tryd.ntmps3
  go_wp2_with (first | ((with_reducible refine gate_dst (N := 2) rfl ?_); refine box_event ?hg (N := 2) ?hd (cs := #[.int .i64 f0, .int .i64 f1, .int .i64 f2, .bool f3, .int .i64 f4, .string f5]) (t := 23) ?hr ?_; (case hd => rfl); (case hg => rfl); (case hr => first | (go_simp; done) | (go_simp; rfl)); intro gb hgb w0 hbox hb; have HX0 := Aside0.mk hbox; have HB0 := Aside0.mk hb; clear hb hbox hgb) | (go_at_call 10; (with_reducible refine (awake_calls _ (Glob.below HG.out HB0.out)).mono ?_); rintro e w1 ⟨rfl, hb⟩; have HB1 := Aside0.mk (below_step HB0.out hb); have HX1 := Aside0.mk (blk_below HX0.out hb); have x0 := (blk_cell HX1.out 0).trans rfl; have x1 := (blk_cell HX1.out 1).trans rfl; have x2 := (blk_cell HX1.out 2).trans rfl; have x3 := (blk_cell HX1.out 3).trans rfl; have x4 := (blk_cell HX1.out 4).trans rfl; have x5 := (blk_cell HX1.out 5).trans rfl;  clear hb) | (go_at_call 12; (with_reducible refine (plenumlaw49_part.calls f0 f1 f2 f3 f4 f5 f0 f1 f2 f3 f4 f5 w1 (Glob.below HG.out HB1.out) rfl).mono ?_); rintro e w2 ⟨rfl, hb⟩; have HB2 := Aside0.mk (below_step HB1.out hb); have HX2 := Aside0.mk (blk_below HX1.out hb); clear hb;  skip) | (go_at_call 11; (with_reducible refine (plenumref49_Check.calls 40 f0 f1 f2 f3 f4 f5 ce w2 (Glob.below HG.out HB2.out) HCR.out).mono ?_); rintro e w3 ⟨rfl, hb⟩; have HB3 := Aside0.mk (below_step HB2.out hb); have HX3 := Aside0.mk (blk_below HX2.out hb); clear hb; clear x0 x1 x2 x3 x4 x5; have x0 := (blk_cell HX3.out 0).trans rfl; have x1 := (blk_cell HX3.out 1).trans rfl; have x2 := (blk_cell HX3.out 2).trans rfl; have x3 := (blk_cell HX3.out 3).trans rfl; have x4 := (blk_cell HX3.out 4).trans rfl; have x5 := (blk_cell HX3.out 5).trans rfl;  skip) | (go_at_call 13; (with_reducible refine (segment_Encode.calls f0 f1 f2 f3 f4 f5 xe ce w3 (Glob.below HG.out HB3.out) HEN.out).mono ?_); rintro e w4 ⟨rfl, hb⟩; have HB4 := Aside0.mk (below_step HB3.out hb); have HX4 := Aside0.mk (blk_below HX3.out hb); clear hb;  skip) | (go_at_call 14; (with_reducible refine (segment_Decode.calls s d0 d1 d2 d3 d4 d5 de w4 (Glob.below HG.out HB4.out) HDP.out).mono ?_); rintro e w5 ⟨rfl, hb⟩; have HB5 := Aside0.mk (below_step HB4.out hb); have HX5 := Aside0.mk (blk_below HX4.out hb); clear hb;  skip) | ((with_reducible refine gate_dst (N := 8) rfl ?_); refine box_event ?hg (N := 8) ?hd (cs := #[.int .i64 0, .int .i64 0, .int .i64 0, .bool false, .int .i64 0, .string ⟨#[]⟩]) (t := 23) ?hr ?_; (case hd => rfl); (case hg => rfl); (case hr => first | (go_simp; done) | (go_simp; rfl)); intro gp hgz w5a hbox hb; have HNgp := Aside0.mk hbox; have HBbgp := Aside0.mk hb; have HGEgp := Aside0.mk (show w5.heap.size ≤ gp by rw [hgz]; exact Nat.le_refl _); clear hb hbox hgz) | (refine wpList_store_row rfl 23 (.tmp 8) (.tmp _) rfl gp #[.int .i64 d0, .int .i64 d1, .int .i64 d2, .bool d3, .int .i64 d4, .string d5] rfl rfl 23 #[.int .i64 0, .int .i64 0, .int .i64 0, .bool false, .int .i64 0, .string ⟨#[]⟩] HNgp.out (by kernel_rfl) rfl (by simp [Value.oneCell']) ?_; have HP6 := Aside0.mk (setRow_heap _ _ _ #[.int .i64 d0, .int .i64 d1, .int .i64 d2, .bool d3, .int .i64 d4, .string d5] _ _ HNgp.out); have hb4 := below_setRow HBbgp.out HGEgp.out #[.int .i64 d0, .int .i64 d1, .int .i64 d2, .bool d3, .int .i64 d4, .string d5]; have HB6 := Aside0.mk (below_step HB5.out hb4); have HX6 := Aside0.mk (blk_below HX5.out hb4); clear hb4; generalize w5a.setRow gp #[.int .i64 d0, .int .i64 d1, .int .i64 d2, .bool d3, .int .i64 d4, .string d5] = w6 at HP6 HB6 HX6 ⊢;  skip) | (go_at_call 15; (with_reducible refine (plenumref49_Decode.calls s d0 d1 d2 d3 d4 d5 de w6 (Glob.below HG.out HB6.out) HDR.out).mono ?_); rintro e w7 ⟨rfl, hb⟩; have HB7 := Aside0.mk (below_step HB6.out hb); have HX7 := Aside0.mk (blk_below HX6.out hb); have HP7 := Aside0.mk (blk_below HP6.out hb); clear hb;  skip) | ((with_reducible refine gate_dst (N := 10) rfl ?_); refine box_event ?hg (N := 10) ?hd (cs := #[.int .i64 0, .int .i64 0, .int .i64 0, .bool false, .int .i64 0, .string ⟨#[]⟩]) (t := 27) ?hr ?_; (case hd => rfl); (case hg => rfl); (case hr => first | (go_simp; done) | (go_simp; rfl)); intro gq hgz w7a hbox hb; have HNgq := Aside0.mk hbox; have HBbgq := Aside0.mk hb; have HGEgq := Aside0.mk (show w7.heap.size ≤ gq by rw [hgz]; exact Nat.le_refl _); clear hb hbox hgz) | (refine wpList_store_row rfl 27 (.tmp 10) (.tmp _) rfl gq #[.int .i64 d0, .int .i64 d1, .int .i64 d2, .bool d3, .int .i64 d4, .string d5] rfl rfl 27 #[.int .i64 0, .int .i64 0, .int .i64 0, .bool false, .int .i64 0, .string ⟨#[]⟩] HNgq.out (by kernel_rfl) rfl (by simp [Value.oneCell']) ?_; have HQ8 := Aside0.mk (setRow_heap _ _ _ #[.int .i64 d0, .int .i64 d1, .int .i64 d2, .bool d3, .int .i64 d4, .string d5] _ _ HNgq.out); have hb4 := below_setRow HBbgq.out HGEgq.out #[.int .i64 d0, .int .i64 d1, .int .i64 d2, .bool d3, .int .i64 d4, .string d5]; have HB8 := Aside0.mk (below_step HB7.out hb4); have HX8 := Aside0.mk (blk_below HX7.out hb4); have HP8 := Aside0.mk (blk_below HP7.out hb4); clear hb4; generalize w7a.setRow gq #[.int .i64 d0, .int .i64 d1, .int .i64 d2, .bool d3, .int .i64 d4, .string d5] = w8 at HQ8 HB8 HX8 HP8 ⊢;  skip))
  clear x0 x1 x2 x3 x4 x5
  have x0 := (blk_cell HX8.out 0).trans rfl
  have x1 := (blk_cell HX8.out 1).trans rfl
  have x2 := (blk_cell HX8.out 2).trans rfl
  have x3 := (blk_cell HX8.out 3).trans rfl
  have x4 := (blk_cell HX8.out 4).trans rfl
  have x5 := (blk_cell HX8.out 5).trans rfl
  have p0 := (blk_cell HP8.out 0).trans rfl
  have p1 := (blk_cell HP8.out 1).trans rfl
  have p2 := (blk_cell HP8.out 2).trans rfl
  have p3 := (blk_cell HP8.out 3).trans rfl
  have p4 := (blk_cell HP8.out 4).trans rfl
  have p5 := (blk_cell HP8.out 5).trans rfl
  have q0 := (blk_cell HQ8.out 0).trans rfl
  have q1 := (blk_cell HQ8.out 1).trans rfl
  have q2 := (blk_cell HQ8.out 2).trans rfl
  have q3 := (blk_cell HQ8.out 3).trans rfl
  have q4 := (blk_cell HQ8.out 4).trans rfl
  have q5 := (blk_cell HQ8.out 5).trans rfl
  have HX9 := Aside0.mk (blk_drew HX8.out)
  have HP9 := Aside0.mk (blk_drew HP8.out)
  have HQ9 := Aside0.mk (blk_drew HQ8.out)
  have HB9 := Aside0.mk (below_drew1 HB8.out)
  refine start_ (n := 20) (S := fun w' => w'.cell? ⟨gb, 0, none⟩ = some (.int .i64 f0) ∧ w'.cell? ⟨gb, 1, none⟩ = some (.int .i64 f1) ∧ w'.cell? ⟨gb, 2, none⟩ = some (.int .i64 f2) ∧ w'.cell? ⟨gb, 3, none⟩ = some (.bool f3) ∧ w'.cell? ⟨gb, 4, none⟩ = some (.int .i64 f4) ∧ w'.cell? ⟨gb, 5, none⟩ = some (.string f5) ∧ w'.cell? ⟨gp, 0, none⟩ = some (.int .i64 d0) ∧ w'.cell? ⟨gp, 1, none⟩ = some (.int .i64 d1) ∧ w'.cell? ⟨gp, 2, none⟩ = some (.int .i64 d2) ∧ w'.cell? ⟨gp, 3, none⟩ = some (.bool d3) ∧ w'.cell? ⟨gp, 4, none⟩ = some (.int .i64 d4) ∧ w'.cell? ⟨gp, 5, none⟩ = some (.string d5) ∧ w'.cell? ⟨gq, 0, none⟩ = some (.int .i64 d0) ∧ w'.cell? ⟨gq, 1, none⟩ = some (.int .i64 d1) ∧ w'.cell? ⟨gq, 2, none⟩ = some (.int .i64 d2) ∧ w'.cell? ⟨gq, 3, none⟩ = some (.bool d3) ∧ w'.cell? ⟨gq, 4, none⟩ = some (.int .i64 d4) ∧ w'.cell? ⟨gq, 5, none⟩ = some (.string d5)) (ds := []) #[Yn, Yn, Yn, Yn, Yn, Yn, Yn, Yn, Yn, Yn, Yn, Yn, Yn, Yn, Yn, Yn, Yn, Yn, Yn, Yn] (by kernel_rfl) rfl rfl ⟨x0, x1, x2, x3, x4, x5, p0, p1, p2, p3, p4, p5, q0, q1, q2, q3, q4, q5⟩ (fun hHeld => ?_)
  generalize w8.drew = w9 at HX9 HP9 HQ9 HB9 hHeld ⊢
  refine pure_ (i := 2) (N := some 45) (v := ?_) (a' := ?_) #[Yn, Yn, Y, Yn, Yn, Yn, Yn, Yn, Yn, Yn, Yn, Yn, Yn, Yn, Yn, Yn, Yn, Yn, Yn, Yn] rfl rfl (by kernel_rfl) (fun _ _ _ h => h) (Or.inl ⟨by rfl, ?_⟩) ?_ ?_
  rotate_left
  ·intro w'
   go_simp
   with_reducible rfl
  rotate_left
  ·simp only [Act.put, List.setIfInBounds_toArray, List.set_cons_zero, List.set_cons_succ, i64_w, i32_w]
   rfl
  refine take_ (i := 0) (N := some 43) (v := ?_) (a' := ?_) #[Y, Yn, Y, Yn, Yn, Yn, Yn, Yn, Yn, Yn, Yn, Yn, Yn, Yn, Yn, Yn, Yn, Yn, Yn, Yn] rfl rfl (by kernel_rfl) (fun _ _ _ h => h) (Or.inl ⟨by rfl, ?_⟩) hHeld ?_ ?_
  rotate_left
  ·rintro w' ⟨s0, s1, s2, s3, s4, s5, s6, s7, s8, s9, s10, s11, s12, s13, s14, s15, s16, s17⟩
   go_simp
   with_reducible rfl
  rotate_left
  ·simp only [Act.put, List.setIfInBounds_toArray, List.set_cons_zero, List.set_cons_succ, i64_w, i32_w]
   rfl
  refine one_ (i := 1) (N := some 44) #[Y, Y, Y, Yn, Yn, Yn, Yn, Yn, Yn, Yn, Yn, Yn, Yn, Yn, Yn, Yn, Yn, Yn, Yn, Yn] rfl rfl (by kernel_rfl) (by decide) (fun K hK => ?_)
  refine goes_ Tryd.func16 (by kernel_rfl) rfl #[.agg #[.int .i64 f0, .int .i64 f1, .int .i64 f2, .bool f3, .int .i64 f4, .string f5]] (by rfl) rfl rfl (by simp only [List.map_toArray, List.map_cons, List.map_nil]; rfl) ?_
  with_reducible refine (segment_Check.calls 40 f0 f1 f2 f3 f4 f5 ce _ (Glob.below HG.out HB9.out) HCP.out).mono ?_
  rintro e w10 ⟨rfl, hb⟩
  refine ⟨_, rfl, ?_⟩
  have HB10 := Aside0.mk (below_step HB9.out hb)
  have HX10 := Aside0.mk (blk_below HX9.out hb)
  have HP10 := Aside0.mk (blk_below HP9.out hb)
  have HQ10 := Aside0.mk (blk_below HQ9.out hb)
  clear hb
  refine hK.out _ _ ⟨(blk_cell HX10.out 0).trans rfl, (blk_cell HX10.out 1).trans rfl, (blk_cell HX10.out 2).trans rfl, (blk_cell HX10.out 3).trans rfl, (blk_cell HX10.out 4).trans rfl, (blk_cell HX10.out 5).trans rfl, (blk_cell HP10.out 0).trans rfl, (blk_cell HP10.out 1).trans rfl, (blk_cell HP10.out 2).trans rfl, (blk_cell HP10.out 3).trans rfl, (blk_cell HP10.out 4).trans rfl, (blk_cell HP10.out 5).trans rfl, (blk_cell HQ10.out 0).trans rfl, (blk_cell HQ10.out 1).trans rfl, (blk_cell HQ10.out 2).trans rfl, (blk_cell HQ10.out 3).trans rfl, (blk_cell HQ10.out 4).trans rfl, (blk_cell HQ10.out 5).trans rfl⟩ (fun hHeld => ?_)
  clear hK K
  refine norm_ (a' := ?_) ?_ ?_
  rotate_left
  ·show Act.put _ (some 44) _ = _
   simp only [Act.put, List.setIfInBounds_toArray, List.set_cons_zero, List.set_cons_succ, i64_w, i32_w]
   rfl
  refine pure_ (i := 3) (N := some 46) (v := ?_) (a' := ?_) #[Y, Y, Y, Y, Yn, Yn, Yn, Yn, Yn, Yn, Yn, Yn, Yn, Yn, Yn, Yn, Yn, Yn, Yn, Yn] rfl rfl (by kernel_rfl) (fun _ _ _ h => h) (Or.inl ⟨by rfl, ?_⟩) ?_ ?_
  rotate_left
  ·intro w'
   go_simp
   with_reducible rfl
  rotate_left
  ·simp only [Act.put, List.setIfInBounds_toArray, List.set_cons_zero, List.set_cons_succ, i64_w, i32_w]
   rfl
  refine pure_ (i := 4) (N := some 47) (v := ?_) (a' := ?_) #[Y, Y, Y, Y, Y, Yn, Yn, Yn, Yn, Yn, Yn, Yn, Yn, Yn, Yn, Yn, Yn, Yn, Yn, Yn] rfl rfl (by kernel_rfl) (fun _ _ _ h => h) (Or.inl ⟨by rfl, ?_⟩) ?_ ?_
  rotate_left
  ·intro w'
   go_simp
   with_reducible rfl
  rotate_left
  ·simp only [Act.put, List.setIfInBounds_toArray, List.set_cons_zero, List.set_cons_succ, i64_w, i32_w]
   rfl
  refine pure_ (i := 5) (N := some 48) (v := ?_) (a' := ?_) #[Y, Y, Y, Y, Y, Y, Yn, Yn, Yn, Yn, Yn, Yn, Yn, Yn, Yn, Yn, Yn, Yn, Yn, Yn] rfl rfl (by kernel_rfl) (fun _ _ _ h => h) (Or.inl ⟨by rfl, ?_⟩) ?_ ?_
  rotate_left
  ·intro w'
   go_simp
   with_reducible rfl
  rotate_left
  ·simp only [Act.put, List.setIfInBounds_toArray, List.set_cons_zero, List.set_cons_succ, i64_w, i32_w]
   rfl
  refine pure_ (i := 6) (N := some 49) (v := ?_) (a' := ?_) #[Y, Y, Y, Y, Y, Y, Y, Yn, Yn, Yn, Yn, Yn, Yn, Yn, Yn, Yn, Yn, Yn, Yn, Yn] rfl rfl (by kernel_rfl) (fun _ _ _ h => h) (Or.inl ⟨by rfl, ?_⟩) ?_ ?_
  rotate_left
  ·intro w'
   go_simp
   with_reducible rfl
  rotate_left
  ·simp only [Act.put, List.setIfInBounds_toArray, List.set_cons_zero, List.set_cons_succ, i64_w, i32_w]
   rfl
  refine pure_ (i := 7) (N := some 50) (v := ?_) (a' := ?_) #[Y, Y, Y, Y, Y, Y, Y, Y, Yn, Yn, Yn, Yn, Yn, Yn, Yn, Yn, Yn, Yn, Yn, Yn] rfl rfl (by kernel_rfl) (fun _ _ _ h => h) (Or.inl ⟨by rfl, ?_⟩) ?_ ?_
  rotate_left
  ·intro w'
   go_simp
   with_reducible rfl
  rotate_left
  ·simp only [Act.put, List.setIfInBounds_toArray, List.set_cons_zero, List.set_cons_succ, i64_w, i32_w]
   rfl
  refine pure_ (i := 8) (N := some 51) (v := ?_) (a' := ?_) #[Y, Y, Y, Y, Y, Y, Y, Y, Y, Yn, Yn, Yn, Yn, Yn, Yn, Yn, Yn, Yn, Yn, Yn] rfl rfl (by kernel_rfl) (fun _ _ _ h => h) (Or.inl ⟨by rfl, ?_⟩) ?_ ?_
  rotate_left
  ·intro w'
   go_simp
   with_reducible rfl
  rotate_left
  ·simp only [Act.put, List.setIfInBounds_toArray, List.set_cons_zero, List.set_cons_succ, i64_w, i32_w]
   rfl
  refine pure_ (i := 9) (N := some 52) (v := ?_) (a' := ?_) #[Y, Y, Y, Y, Y, Y, Y, Y, Y, Y, Yn, Yn, Yn, Yn, Yn, Yn, Yn, Yn, Yn, Yn] rfl rfl (by kernel_rfl) (fun _ _ _ h => h) (Or.inl ⟨by rfl, ?_⟩) ?_ ?_
  rotate_left
  ·intro w'
   go_simp
   with_reducible rfl
  rotate_left
  ·simp only [Act.put, List.setIfInBounds_toArray, List.set_cons_zero, List.set_cons_succ, i64_w, i32_w]
   rfl
  refine pure_ (i := 10) (N := some 53) (v := ?_) (a' := ?_) #[Y, Y, Y, Y, Y, Y, Y, Y, Y, Y, Y, Yn, Yn, Yn, Yn, Yn, Yn, Yn, Yn, Yn] rfl rfl (by kernel_rfl) (fun _ _ _ h => h) (Or.inl ⟨by rfl, ?_⟩) ?_ ?_
  rotate_left
  ·intro w'
   go_simp
   with_reducible rfl
  rotate_left
  ·simp only [Act.put, List.setIfInBounds_toArray, List.set_cons_zero, List.set_cons_succ, i64_w, i32_w]
   rfl
  refine pure_ (i := 11) (N := some 54) (v := ?_) (a' := ?_) #[Y, Y, Y, Y, Y, Y, Y, Y, Y, Y, Y, Y, Yn, Yn, Yn, Yn, Yn, Yn, Yn, Yn] rfl rfl (by kernel_rfl) (fun _ _ _ h => h) (Or.inl ⟨by rfl, ?_⟩) ?_ ?_
  rotate_left
  ·intro w'
   go_simp
   with_reducible rfl
  rotate_left
  ·simp only [Act.put, List.setIfInBounds_toArray, List.set_cons_zero, List.set_cons_succ, i64_w, i32_w]
   rfl
  refine pure_ (i := 12) (N := some 55) (v := ?_) (a' := ?_) #[Y, Y, Y, Y, Y, Y, Y, Y, Y, Y, Y, Y, Y, Yn, Yn, Yn, Yn, Yn, Yn, Yn] rfl rfl (by kernel_rfl) (fun _ _ _ h => h) (Or.inl ⟨by rfl, ?_⟩) ?_ ?_
  rotate_left
  ·intro w'
   go_simp
   with_reducible rfl
  rotate_left
  ·simp only [Act.put, List.setIfInBounds_toArray, List.set_cons_zero, List.set_cons_succ, i64_w, i32_w]
   rfl
  refine pure_ (i := 13) (N := some 56) (v := ?_) (a' := ?_) #[Y, Y, Y, Y, Y, Y, Y, Y, Y, Y, Y, Y, Y, Y, Yn, Yn, Yn, Yn, Yn, Yn] rfl rfl (by kernel_rfl) (fun _ _ _ h => h) (Or.inl ⟨by rfl, ?_⟩) ?_ ?_
  rotate_left
  ·intro w'
   go_simp
   with_reducible rfl
  rotate_left
  ·simp only [Act.put, List.setIfInBounds_toArray, List.set_cons_zero, List.set_cons_succ, i64_w, i32_w]
   rfl
  refine pure_ (i := 14) (N := some 57) (v := ?_) (a' := ?_) #[Y, Y, Y, Y, Y, Y, Y, Y, Y, Y, Y, Y, Y, Y, Y, Yn, Yn, Yn, Yn, Yn] rfl rfl (by kernel_rfl) (fun _ _ _ h => h) (Or.inl ⟨by rfl, ?_⟩) ?_ ?_
  rotate_left
  ·intro w'
   go_simp
   with_reducible rfl
  rotate_left
  ·simp only [Act.put, List.setIfInBounds_toArray, List.set_cons_zero, List.set_cons_succ, i64_w, i32_w]
   rfl
  refine take_ (i := 15) (N := some 58) (v := ?_) (a' := ?_) #[Y, Y, Y, Y, Y, Y, Y, Y, Y, Y, Y, Y, Y, Y, Y, Y, Yn, Yn, Yn, Yn] rfl rfl (by kernel_rfl) (fun _ _ _ h => h) (Or.inl ⟨by rfl, ?_⟩) hHeld ?_ ?_
  rotate_left
  ·rintro w' ⟨s0, s1, s2, s3, s4, s5, s6, s7, s8, s9, s10, s11, s12, s13, s14, s15, s16, s17⟩
   go_simp
   with_reducible rfl
  rotate_left
  ·simp only [Act.put, List.setIfInBounds_toArray, List.set_cons_zero, List.set_cons_succ, i64_w, i32_w]
   rfl
  refine take_ (i := 17) (N := some 60) (v := ?_) (a' := ?_) #[Y, Y, Y, Y, Y, Y, Y, Y, Y, Y, Y, Y, Y, Y, Y, Y, Yn, Y, Yn, Yn] rfl rfl (by kernel_rfl) (fun _ _ _ h => h) (Or.inl ⟨by rfl, ?_⟩) hHeld ?_ ?_
  rotate_left
  ·rintro w' ⟨s0, s1, s2, s3, s4, s5, s6, s7, s8, s9, s10, s11, s12, s13, s14, s15, s16, s17⟩
   go_simp
   with_reducible rfl
  rotate_left
  ·simp only [Act.put, List.setIfInBounds_toArray, List.set_cons_zero, List.set_cons_succ, i64_w, i32_w]
   rfl
  refine one_ (i := 16) (N := some 59) #[Y, Y, Y, Y, Y, Y, Y, Y, Y, Y, Y, Y, Y, Y, Y, Y, Y, Y, Yn, Yn] rfl rfl (by kernel_rfl) (by decide) (fun K hK => ?_)
  refine goes_ Tryd.func12 (by kernel_rfl) rfl #[.agg #[.int .i64 d0, .int .i64 d1, .int .i64 d2, .bool d3, .int .i64 d4, .string d5]] (by rfl) rfl rfl (by simp only [List.map_toArray, List.map_cons, List.map_nil]; rfl) ?_
  with_reducible refine (plenumlaw49_part.calls d0 d1 d2 d3 d4 d5 d0 d1 d2 d3 d4 d5 _ (Glob.below HG.out HB10.out) rfl).mono ?_
  rintro e w11 ⟨rfl, hb⟩
  refine ⟨_, rfl, ?_⟩
  have HB11 := Aside0.mk (below_step HB10.out hb)
  have HX11 := Aside0.mk (blk_below HX10.out hb)
  have HP11 := Aside0.mk (blk_below HP10.out hb)
  have HQ11 := Aside0.mk (blk_below HQ10.out hb)
  clear hb
  refine hK.out _ _ ⟨(blk_cell HX11.out 0).trans rfl, (blk_cell HX11.out 1).trans rfl, (blk_cell HX11.out 2).trans rfl, (blk_cell HX11.out 3).trans rfl, (blk_cell HX11.out 4).trans rfl, (blk_cell HX11.out 5).trans rfl, (blk_cell HP11.out 0).trans rfl, (blk_cell HP11.out 1).trans rfl, (blk_cell HP11.out 2).trans rfl, (blk_cell HP11.out 3).trans rfl, (blk_cell HP11.out 4).trans rfl, (blk_cell HP11.out 5).trans rfl, (blk_cell HQ11.out 0).trans rfl, (blk_cell HQ11.out 1).trans rfl, (blk_cell HQ11.out 2).trans rfl, (blk_cell HQ11.out 3).trans rfl, (blk_cell HQ11.out 4).trans rfl, (blk_cell HQ11.out 5).trans rfl⟩ (fun hHeld => ?_)
  clear hK K
  refine norm_ (a' := ?_) ?_ ?_
  rotate_left
  ·show Act.put _ (some 59) _ = _
   simp only [Act.put, List.setIfInBounds_toArray, List.set_cons_zero, List.set_cons_succ, i64_w, i32_w]
   rfl
  refine pure_ (i := 18) (N := some 61) (v := ?_) (a' := ?_) #[Y, Y, Y, Y, Y, Y, Y, Y, Y, Y, Y, Y, Y, Y, Y, Y, Y, Y, Y, Yn] rfl rfl (by kernel_rfl) (fun _ _ _ h => h) (Or.inl ⟨by rfl, ?_⟩) ?_ ?_
  rotate_left
  ·intro w'
   go_simp
   with_reducible rfl
  rotate_left
  ·simp only [Act.put, List.setIfInBounds_toArray, List.set_cons_zero, List.set_cons_succ, i64_w, i32_w]
   rfl
  refine pure_ (i := 19) (N := some 62) (v := ?_) (a' := ?_) #[Y, Y, Y, Y, Y, Y, Y, Y, Y, Y, Y, Y, Y, Y, Y, Y, Y, Y, Y, Y] rfl rfl (by kernel_rfl) (fun _ _ _ h => h) (Or.inl ⟨by rfl, ?_⟩) ?_ ?_
  rotate_left
  ·intro w'
   go_simp
   with_reducible rfl
  rotate_left
  ·simp only [Act.put, List.setIfInBounds_toArray, List.set_cons_zero, List.set_cons_succ, i64_w, i32_w]
   rfl
  refine done_ (by kernel_rfl) ?_
  clear x0 x1 x2 x3 x4 x5 p0 p1 p2 p3 p4 p5 q0 q1 q2 q3 q4 q5 hHeld
  go_wp2_with (first | (go_at_call 14; (with_reducible refine (segment_Decode.calls xe f0 f1 f2 f3 f4 f5 0 w11 (Glob.below HG.out HB11.out) HDB.out).mono ?_); rintro e w12 ⟨rfl, hb⟩; have HB12 := Aside0.mk (below_step HB11.out hb); have HX12 := Aside0.mk (blk_below HX11.out hb); clear hb;  skip) | ((with_reducible refine gate_dst (N := 12) rfl ?_); refine box_event ?hg (N := 12) ?hd (cs := #[.int .i64 0, .int .i64 0, .int .i64 0, .bool false, .int .i64 0, .string ⟨#[]⟩]) (t := 23) ?hr ?_; (case hd => rfl); (case hg => rfl); (case hr => first | (go_simp; done) | (go_simp; rfl)); intro gy hgz w12a hbox hb; have HNgy := Aside0.mk hbox; have HBbgy := Aside0.mk hb; have HGEgy := Aside0.mk (show w12.heap.size ≤ gy by rw [hgz]; exact Nat.le_refl _); clear hb hbox hgz) | (refine wpList_store_row rfl 23 (.tmp 12) (.tmp _) rfl gy #[.int .i64 f0, .int .i64 f1, .int .i64 f2, .bool f3, .int .i64 f4, .string f5] rfl rfl 23 #[.int .i64 0, .int .i64 0, .int .i64 0, .bool false, .int .i64 0, .string ⟨#[]⟩] HNgy.out (by kernel_rfl) rfl (by simp [Value.oneCell']) ?_; have HY13 := Aside0.mk (setRow_heap _ _ _ #[.int .i64 f0, .int .i64 f1, .int .i64 f2, .bool f3, .int .i64 f4, .string f5] _ _ HNgy.out); have hb4 := below_setRow HBbgy.out HGEgy.out #[.int .i64 f0, .int .i64 f1, .int .i64 f2, .bool f3, .int .i64 f4, .string f5]; have HB13 := Aside0.mk (below_step HB12.out hb4); have HX13 := Aside0.mk (blk_below HX12.out hb4); clear hb4; generalize w12a.setRow gy #[.int .i64 f0, .int .i64 f1, .int .i64 f2, .bool f3, .int .i64 f4, .string f5] = w13 at HY13 HB13 HX13 ⊢; have x0 := (blk_cell HX13.out 0).trans rfl; have x1 := (blk_cell HX13.out 1).trans rfl; have x2 := (blk_cell HX13.out 2).trans rfl; have x3 := (blk_cell HX13.out 3).trans rfl; have x4 := (blk_cell HX13.out 4).trans rfl; have x5 := (blk_cell HX13.out 5).trans rfl; have y0 := (blk_cell HY13.out 0).trans rfl; have y1 := (blk_cell HY13.out 1).trans rfl; have y2 := (blk_cell HY13.out 2).trans rfl; have y3 := (blk_cell HY13.out 3).trans rfl; have y4 := (blk_cell HY13.out 4).trans rfl; have y5 := (blk_cell HY13.out 5).trans rfl;  skip) | (go_at_call 12; (with_reducible refine (plenumlaw49_part.calls f0 f1 f2 f3 f4 f5 f0 f1 f2 f3 f4 f5 w13 (Glob.below HG.out HB13.out) rfl).mono ?_); rintro e w14 ⟨rfl, hb⟩; have HB14 := Aside0.mk (below_step HB13.out hb); have HX14 := Aside0.mk (blk_below HX13.out hb); have HY14 := Aside0.mk (blk_below HY13.out hb); clear hb;  skip) | (go_at_call 17; (with_reducible refine (plenumref49_Encode.calls 40 f0 f1 f2 f3 f4 f5 xe w14 (Glob.below HG.out HB14.out) HRE.out).mono ?_); rintro e w15 ⟨rfl, hb⟩; have HB15 := Aside0.mk (below_step HB14.out hb); have HX15 := Aside0.mk (blk_below HX14.out hb); have HY15 := Aside0.mk (blk_below HY14.out hb); clear hb; clear x0 x1 x2 x3 x4 x5 y0 y1 y2 y3 y4 y5; have x0 := (blk_cell HX15.out 0).trans rfl; have x1 := (blk_cell HX15.out 1).trans rfl; have x2 := (blk_cell HX15.out 2).trans rfl; have x3 := (blk_cell HX15.out 3).trans rfl; have x4 := (blk_cell HX15.out 4).trans rfl; have x5 := (blk_cell HX15.out 5).trans rfl; have y0 := (blk_cell HY15.out 0).trans rfl; have y1 := (blk_cell HY15.out 1).trans rfl; have y2 := (blk_cell HY15.out 2).trans rfl; have y3 := (blk_cell HY15.out 3).trans rfl; have y4 := (blk_cell HY15.out 4).trans rfl; have y5 := (blk_cell HY15.out 5).trans rfl;  skip))
  go_ret
  exact ⟨rfl, HB15.out⟩
 ·obtain ⟨xe, HXE⟩ : ∃ x : ByteArray, Aside0 ((⟨#[]⟩ : ByteArray) = x) := ⟨_, ⟨rfl⟩⟩
  have xeb : (xe.toList == ([] : List UInt8)) = true := by rw [← HXE.out, ByteArray.toList_eq]; rfl
  have HEN := Aside0.mk (show segment_Encode.f f0 f1 f2 f3 f4 f5 = some (xe, ce) by rw [← HXE.out, ← HCE.out]; exact encBad f0 f1 f2 f3 f4 f5 (by rw [HCE.out]; exact hz))
  have cb : (ce != 0) = true := bne_iff_ne.mpr hz
  clear hz
  go_enter Tryd.func3, Tryd.ntmps3
  go_wp2_with (first | ((with_reducible refine gate_dst (N := 2) rfl ?_); refine box_event ?hg (N := 2) ?hd (cs := #[.int .i64 f0, .int .i64 f1, .int .i64 f2, .bool f3, .int .i64 f4, .string f5]) (t := 23) ?hr ?_; (case hd => rfl); (case hg => rfl); (case hr => first | (go_simp; done) | (go_simp; rfl)); intro gb hgb w0 hbox hb; have HX0 := Aside0.mk hbox; have HB0 := Aside0.mk hb; clear hb hbox hgb) | (go_at_call 10; (with_reducible refine (awake_calls _ (Glob.below HG.out HB0.out)).mono ?_); rintro e w1 ⟨rfl, hb⟩; have HB1 := Aside0.mk (below_step HB0.out hb); have HX1 := Aside0.mk (blk_below HX0.out hb); have x0 := (blk_cell HX1.out 0).trans rfl; have x1 := (blk_cell HX1.out 1).trans rfl; have x2 := (blk_cell HX1.out 2).trans rfl; have x3 := (blk_cell HX1.out 3).trans rfl; have x4 := (blk_cell HX1.out 4).trans rfl; have x5 := (blk_cell HX1.out 5).trans rfl;  clear hb) | (go_at_call 12; (with_reducible refine (plenumlaw49_part.calls f0 f1 f2 f3 f4 f5 f0 f1 f2 f3 f4 f5 w1 (Glob.below HG.out HB1.out) rfl).mono ?_); rintro e w2 ⟨rfl, hb⟩; have HB2 := Aside0.mk (below_step HB1.out hb); have HX2 := Aside0.mk (blk_below HX1.out hb); clear hb;  skip) | (go_at_call 11; (with_reducible refine (plenumref49_Check.calls 40 f0 f1 f2 f3 f4 f5 ce w2 (Glob.below HG.out HB2.out) HCR.out).mono ?_); rintro e w3 ⟨rfl, hb⟩; have HB3 := Aside0.mk (below_step HB2.out hb); have HX3 := Aside0.mk (blk_below HX2.out hb); clear hb; clear x0 x1 x2 x3 x4 x5; have x0 := (blk_cell HX3.out 0).trans rfl; have x1 := (blk_cell HX3.out 1).trans rfl; have x2 := (blk_cell HX3.out 2).trans rfl; have x3 := (blk_cell HX3.out 3).trans rfl; have x4 := (blk_cell HX3.out 4).trans rfl; have x5 := (blk_cell HX3.out 5).trans rfl;  skip) | (go_at_call 13; (with_reducible refine (segment_Encode.calls f0 f1 f2 f3 f4 f5 xe ce w3 (Glob.below HG.out HB3.out) HEN.out).mono ?_); rintro e w4 ⟨rfl, hb⟩; have HB4 := Aside0.mk (below_step HB3.out hb); have HX4 := Aside0.mk (blk_below HX3.out hb); clear hb;  skip) | (go_at_call 14; (with_reducible refine (segment_Decode.calls s d0 d1 d2 d3 d4 d5 de w4 (Glob.below HG.out HB4.out) HDP.out).mono ?_); rintro e w5 ⟨rfl, hb⟩; have HB5 := Aside0.mk (below_step HB4.out hb); have HX5 := Aside0.mk (blk_below HX4.out hb); clear hb;  skip) | ((with_reducible refine gate_dst (N := 8) rfl ?_); refine box_event ?hg (N := 8) ?hd (cs := #[.int .i64 0, .int .i64 0, .int .i64 0, .bool false, .int .i64 0, .string ⟨#[]⟩]) (t := 23) ?hr ?_; (case hd => rfl); (case hg => rfl); (case hr => first | (go_simp; done) | (go_simp; rfl)); intro gp hgz w5a hbox hb; have HNgp := Aside0.mk hbox; have HBbgp := Aside0.mk hb; have HGEgp := Aside0.mk (show w5.heap.size ≤ gp by rw [hgz]; exact Nat.le_refl _); clear hb hbox hgz) | (refine wpList_store_row rfl 23 (.tmp 8) (.tmp _) rfl gp #[.int .i64 d0, .int .i64 d1, .int .i64 d2, .bool d3, .int .i64 d4, .string d5] rfl rfl 23 #[.int .i64 0, .int .i64 0, .int .i64 0, .bool false, .int .i64 0, .string ⟨#[]⟩] HNgp.out (by kernel_rfl) rfl (by simp [Value.oneCell']) ?_; have HP6 := Aside0.mk (setRow_heap _ _ _ #[.int .i64 d0, .int .i64 d1, .int .i64 d2, .bool d3, .int .i64 d4, .string d5] _ _ HNgp.out); have hb4 := below_setRow HBbgp.out HGEgp.out #[.int .i64 d0, .int .i64 d1, .int .i64 d2, .bool d3, .int .i64 d4, .string d5]; have HB6 := Aside0.mk (below_step HB5.out hb4); have HX6 := Aside0.mk (blk_below HX5.out hb4); clear hb4; generalize w5a.setRow gp #[.int .i64 d0, .int .i64 d1, .int .i64 d2, .bool d3, .int .i64 d4, .string d5] = w6 at HP6 HB6 HX6 ⊢;  skip) | (go_at_call 15; (with_reducible refine (plenumref49_Decode.calls s d0 d1 d2 d3 d4 d5 de w6 (Glob.below HG.out HB6.out) HDR.out).mono ?_); rintro e w7 ⟨rfl, hb⟩; have HB7 := Aside0.mk (below_step HB6.out hb); have HX7 := Aside0.mk (blk_below HX6.out hb); have HP7 := Aside0.mk (blk_below HP6.out hb); clear hb;  skip) | ((with_reducible refine gate_dst (N := 10) rfl ?_); refine box_event ?hg (N := 10) ?hd (cs := #[.int .i64 0, .int .i64 0, .int .i64 0, .bool false, .int .i64 0, .string ⟨#[]⟩]) (t := 27) ?hr ?_; (case hd => rfl); (case hg => rfl); (case hr => first | (go_simp; done) | (go_simp; rfl)); intro gq hgz w7a hbox hb; have HNgq := Aside0.mk hbox; have HBbgq := Aside0.mk hb; have HGEgq := Aside0.mk (show w7.heap.size ≤ gq by rw [hgz]; exact Nat.le_refl _); clear hb hbox hgz) | (refine wpList_store_row rfl 27 (.tmp 10) (.tmp _) rfl gq #[.int .i64 d0, .int .i64 d1, .int .i64 d2, .bool d3, .int .i64 d4, .string d5] rfl rfl 27 #[.int .i64 0, .int .i64 0, .int .i64 0, .bool false, .int .i64 0, .string ⟨#[]⟩] HNgq.out (by kernel_rfl) rfl (by simp [Value.oneCell']) ?_; have HQ8 := Aside0.mk (setRow_heap _ _ _ #[.int .i64 d0, .int .i64 d1, .int .i64 d2, .bool d3, .int .i64 d4, .string d5] _ _ HNgq.out); have hb4 := below_setRow HBbgq.out HGEgq.out #[.int .i64 d0, .int .i64 d1, .int .i64 d2, .bool d3, .int .i64 d4, .string d5]; have HB8 := Aside0.mk (below_step HB7.out hb4); have HX8 := Aside0.mk (blk_below HX7.out hb4); have HP8 := Aside0.mk (blk_below HP7.out hb4); clear hb4; generalize w7a.setRow gq #[.int .i64 d0, .int .i64 d1, .int .i64 d2, .bool d3, .int .i64 d4, .string d5] = w8 at HQ8 HB8 HX8 HP8 ⊢;  skip))
  clear x0 x1 x2 x3 x4 x5
  have x0 := (blk_cell HX8.out 0).trans rfl
  have x1 := (blk_cell HX8.out 1).trans rfl
  have x2 := (blk_cell HX8.out 2).trans rfl
  have x3 := (blk_cell HX8.out 3).trans rfl
  have x4 := (blk_cell HX8.out 4).trans rfl
  have x5 := (blk_cell HX8.out 5).trans rfl
  have p0 := (blk_cell HP8.out 0).trans rfl
  have p1 := (blk_cell HP8.out 1).trans rfl
  have p2 := (blk_cell HP8.out 2).trans rfl
  have p3 := (blk_cell HP8.out 3).trans rfl
  have p4 := (blk_cell HP8.out 4).trans rfl
  have p5 := (blk_cell HP8.out 5).trans rfl
  have q0 := (blk_cell HQ8.out 0).trans rfl
  have q1 := (blk_cell HQ8.out 1).trans rfl
  have q2 := (blk_cell HQ8.out 2).trans rfl
  have q3 := (blk_cell HQ8.out 3).trans rfl
  have q4 := (blk_cell HQ8.out 4).trans rfl
  have q5 := (blk_cell HQ8.out 5).trans rfl
  have HX9 := Aside0.mk (blk_drew HX8.out)
  have HP9 := Aside0.mk (blk_drew HP8.out)
  have HQ9 := Aside0.mk (blk_drew HQ8.out)
  have HB9 := Aside0.mk (below_drew1 HB8.out)
  refine start_ (n := 20) (S := fun w' => w'.cell? ⟨gb, 0, none⟩ = some (.int .i64 f0) ∧ w'.cell? ⟨gb, 1, none⟩ = some (.int .i64 f1) ∧ w'.cell? ⟨gb, 2, none⟩ = some (.int .i64 f2) ∧ w'.cell? ⟨gb, 3, none⟩ = some (.bool f3) ∧ w'.cell? ⟨gb, 4, none⟩ = some (.int .i64 f4) ∧ w'.cell? ⟨gb, 5, none⟩ = some (.string f5) ∧ w'.cell? ⟨gp, 0, none⟩ = some (.int .i64 d0) ∧ w'.cell? ⟨gp, 1, none⟩ = some (.int .i64 d1) ∧ w'.cell? ⟨gp, 2, none⟩ = some (.int .i64 d2) ∧ w'.cell? ⟨gp, 3, none⟩ = some (.bool d3) ∧ w'.cell? ⟨gp, 4, none⟩ = some (.int .i64 d4) ∧ w'.cell? ⟨gp, 5, none⟩ = some (.string d5) ∧ w'.cell? ⟨gq, 0, none⟩ = some (.int .i64 d0) ∧ w'.cell? ⟨gq, 1, none⟩ = some (.int .i64 d1) ∧ w'.cell? ⟨gq, 2, none⟩ = some (.int .i64 d2) ∧ w'.cell? ⟨gq, 3, none⟩ = some (.bool d3) ∧ w'.cell? ⟨gq, 4, none⟩ = some (.int .i64 d4) ∧ w'.cell? ⟨gq, 5, none⟩ = some (.string d5)) (ds := []) #[Yn, Yn, Yn, Yn, Yn, Yn, Yn, Yn, Yn, Yn, Yn, Yn, Yn, Yn, Yn, Yn, Yn, Yn, Yn, Yn] (by kernel_rfl) rfl rfl ⟨x0, x1, x2, x3, x4, x5, p0, p1, p2, p3, p4, p5, q0, q1, q2, q3, q4, q5⟩ (fun hHeld => ?_)
  generalize w8.drew = w9 at HX9 HP9 HQ9 HB9 hHeld ⊢
  refine pure_ (i := 2) (N := some 45) (v := ?_) (a' := ?_) #[Yn, Yn, Y, Yn, Yn, Yn, Yn, Yn, Yn, Yn, Yn, Yn, Yn, Yn, Yn, Yn, Yn, Yn, Yn, Yn] rfl rfl (by kernel_rfl) (fun _ _ _ h => h) (Or.inl ⟨by rfl, ?_⟩) ?_ ?_
  rotate_left
  ·intro w'
   go_simp
   with_reducible rfl
  rotate_left
  ·simp only [Act.put, List.setIfInBounds_toArray, List.set_cons_zero, List.set_cons_succ, i64_w, i32_w]
   rfl
  refine take_ (i := 0) (N := some 43) (v := ?_) (a' := ?_) #[Y, Yn, Y, Yn, Yn, Yn, Yn, Yn, Yn, Yn, Yn, Yn, Yn, Yn, Yn, Yn, Yn, Yn, Yn, Yn] rfl rfl (by kernel_rfl) (fun _ _ _ h => h) (Or.inl ⟨by rfl, ?_⟩) hHeld ?_ ?_
  rotate_left
  ·rintro w' ⟨s0, s1, s2, s3, s4, s5, s6, s7, s8, s9, s10, s11, s12, s13, s14, s15, s16, s17⟩
   go_simp
   with_reducible rfl
  rotate_left
  ·simp only [Act.put, List.setIfInBounds_toArray, List.set_cons_zero, List.set_cons_succ, i64_w, i32_w]
   rfl
  refine one_ (i := 1) (N := some 44) #[Y, Y, Y, Yn, Yn, Yn, Yn, Yn, Yn, Yn, Yn, Yn, Yn, Yn, Yn, Yn, Yn, Yn, Yn, Yn] rfl rfl (by kernel_rfl) (by decide) (fun K hK => ?_)
  refine goes_ Tryd.func16 (by kernel_rfl) rfl #[.agg #[.int .i64 f0, .int .i64 f1, .int .i64 f2, .bool f3, .int .i64 f4, .string f5]] (by rfl) rfl rfl (by simp only [List.map_toArray, List.map_cons, List.map_nil]; rfl) ?_
  with_reducible refine (segment_Check.calls 40 f0 f1 f2 f3 f4 f5 ce _ (Glob.below HG.out HB9.out) HCP.out).mono ?_
  rintro e w10 ⟨rfl, hb⟩
  refine ⟨_, rfl, ?_⟩
  have HB10 := Aside0.mk (below_step HB9.out hb)
  have HX10 := Aside0.mk (blk_below HX9.out hb)
  have HP10 := Aside0.mk (blk_below HP9.out hb)
  have HQ10 := Aside0.mk (blk_below HQ9.out hb)
  clear hb
  refine hK.out _ _ ⟨(blk_cell HX10.out 0).trans rfl, (blk_cell HX10.out 1).trans rfl, (blk_cell HX10.out 2).trans rfl, (blk_cell HX10.out 3).trans rfl, (blk_cell HX10.out 4).trans rfl, (blk_cell HX10.out 5).trans rfl, (blk_cell HP10.out 0).trans rfl, (blk_cell HP10.out 1).trans rfl, (blk_cell HP10.out 2).trans rfl, (blk_cell HP10.out 3).trans rfl, (blk_cell HP10.out 4).trans rfl, (blk_cell HP10.out 5).trans rfl, (blk_cell HQ10.out 0).trans rfl, (blk_cell HQ10.out 1).trans rfl, (blk_cell HQ10.out 2).trans rfl, (blk_cell HQ10.out 3).trans rfl, (blk_cell HQ10.out 4).trans rfl, (blk_cell HQ10.out 5).trans rfl⟩ (fun hHeld => ?_)
  clear hK K
  refine norm_ (a' := ?_) ?_ ?_
  rotate_left
  ·show Act.put _ (some 44) _ = _
   simp only [Act.put, List.setIfInBounds_toArray, List.set_cons_zero, List.set_cons_succ, i64_w, i32_w]
   rfl
  refine pure_ (i := 3) (N := some 46) (v := ?_) (a' := ?_) #[Y, Y, Y, Y, Yn, Yn, Yn, Yn, Yn, Yn, Yn, Yn, Yn, Yn, Yn, Yn, Yn, Yn, Yn, Yn] rfl rfl (by kernel_rfl) (fun _ _ _ h => h) (Or.inl ⟨by rfl, ?_⟩) ?_ ?_
  rotate_left
  ·intro w'
   go_simp
   with_reducible rfl
  rotate_left
  ·simp only [Act.put, List.setIfInBounds_toArray, List.set_cons_zero, List.set_cons_succ, i64_w, i32_w]
   rfl
  refine pure_ (i := 4) (N := some 47) (v := ?_) (a' := ?_) #[Y, Y, Y, Y, Y, Yn, Yn, Yn, Yn, Yn, Yn, Yn, Yn, Yn, Yn, Yn, Yn, Yn, Yn, Yn] rfl rfl (by kernel_rfl) (fun _ _ _ h => h) (Or.inl ⟨by rfl, ?_⟩) ?_ ?_
  rotate_left
  ·intro w'
   go_simp
   with_reducible rfl
  rotate_left
  ·simp only [Act.put, List.setIfInBounds_toArray, List.set_cons_zero, List.set_cons_succ, i64_w, i32_w]
   rfl
  refine pure_ (i := 5) (N := some 48) (v := ?_) (a' := ?_) #[Y, Y, Y, Y, Y, Y, Yn, Yn, Yn, Yn, Yn, Yn, Yn, Yn, Yn, Yn, Yn, Yn, Yn, Yn] rfl rfl (by kernel_rfl) (fun _ _ _ h => h) (Or.inl ⟨by rfl, ?_⟩) ?_ ?_
  rotate_left
  ·intro w'
   go_simp
   with_reducible rfl
  rotate_left
  ·simp only [Act.put, List.setIfInBounds_toArray, List.set_cons_zero, List.set_cons_succ, i64_w, i32_w]
   rfl
  refine pure_ (i := 6) (N := some 49) (v := ?_) (a' := ?_) #[Y, Y, Y, Y, Y, Y, Y, Yn, Yn, Yn, Yn, Yn, Yn, Yn, Yn, Yn, Yn, Yn, Yn, Yn] rfl rfl (by kernel_rfl) (fun _ _ _ h => h) (Or.inl ⟨by rfl, ?_⟩) ?_ ?_
  rotate_left
  ·intro w'
   go_simp
   with_reducible rfl
  rotate_left
  ·simp only [Act.put, List.setIfInBounds_toArray, List.set_cons_zero, List.set_cons_succ, i64_w, i32_w]
   rfl
  refine pure_ (i := 7) (N := some 50) (v := ?_) (a' := ?_) #[Y, Y, Y, Y, Y, Y, Y, Y, Yn, Yn, Yn, Yn, Yn, Yn, Yn, Yn, Yn, Yn, Yn, Yn] rfl rfl (by kernel_rfl) (fun _ _ _ h => h) (Or.inl ⟨by rfl, ?_⟩) ?_ ?_
  rotate_left
  ·intro w'
   go_simp
   with_reducible rfl
  rotate_left
  ·simp only [Act.put, List.setIfInBounds_toArray, List.set_cons_zero, List.set_cons_succ, i64_w, i32_w]
   rfl
  refine pure_ (i := 8) (N := some 51) (v := ?_) (a' := ?_) #[Y, Y, Y, Y, Y, Y, Y, Y, Y, Yn, Yn, Yn, Yn, Yn, Yn, Yn, Yn, Yn, Yn, Yn] rfl rfl (by kernel_rfl) (fun _ _ _ h => h) (Or.inl ⟨by rfl, ?_⟩) ?_ ?_
  rotate_left
  ·intro w'
   go_simp
   with_reducible rfl
  rotate_left
  ·simp only [Act.put, List.setIfInBounds_toArray, List.set_cons_zero, List.set_cons_succ, i64_w, i32_w]
   rfl
  refine pure_ (i := 9) (N := some 52) (v := ?_) (a' := ?_) #[Y, Y, Y, Y, Y, Y, Y, Y, Y, Y, Yn, Yn, Yn, Yn, Yn, Yn, Yn, Yn, Yn, Yn] rfl rfl (by kernel_rfl) (fun _ _ _ h => h) (Or.inl ⟨by rfl, ?_⟩) ?_ ?_
  rotate_left
  ·intro w'
   go_simp
   with_reducible rfl
  rotate_left
  ·simp only [Act.put, List.setIfInBounds_toArray, List.set_cons_zero, List.set_cons_succ, i64_w, i32_w]
   rfl
  refine pure_ (i := 10) (N := some 53) (v := ?_) (a' := ?_) #[Y, Y, Y, Y, Y, Y, Y, Y, Y, Y, Y, Yn, Yn, Yn, Yn, Yn, Yn, Yn, Yn, Yn] rfl rfl (by kernel_rfl) (fun _ _ _ h => h) (Or.inl ⟨by rfl, ?_⟩) ?_ ?_
  rotate_left
  ·intro w'
   go_simp
   with_reducible rfl
  rotate_left
  ·simp only [Act.put, List.setIfInBounds_toArray, List.set_cons_zero, List.set_cons_succ, i64_w, i32_w]
   rfl
  refine pure_ (i := 11) (N := some 54) (v := ?_) (a' := ?_) #[Y, Y, Y, Y, Y, Y, Y, Y, Y, Y, Y, Y, Yn, Yn, Yn, Yn, Yn, Yn, Yn, Yn] rfl rfl (by kernel_rfl) (fun _ _ _ h => h) (Or.inl ⟨by rfl, ?_⟩) ?_ ?_
  rotate_left
  ·intro w'
   go_simp
   with_reducible rfl
  rotate_left
  ·simp only [Act.put, List.setIfInBounds_toArray, List.set_cons_zero, List.set_cons_succ, i64_w, i32_w]
   rfl
  refine pure_ (i := 12) (N := some 55) (v := ?_) (a' := ?_) #[Y, Y, Y, Y, Y, Y, Y, Y, Y, Y, Y, Y, Y, Yn, Yn, Yn, Yn, Yn, Yn, Yn] rfl rfl (by kernel_rfl) (fun _ _ _ h => h) (Or.inl ⟨by rfl, ?_⟩) ?_ ?_
  rotate_left
  ·intro w'
   go_simp
   with_reducible rfl
  rotate_left
  ·simp only [Act.put, List.setIfInBounds_toArray, List.set_cons_zero, List.set_cons_succ, i64_w, i32_w]
   rfl
  refine pure_ (i := 13) (N := some 56) (v := ?_) (a' := ?_) #[Y, Y, Y, Y, Y, Y, Y, Y, Y, Y, Y, Y, Y, Y, Yn, Yn, Yn, Yn, Yn, Yn] rfl rfl (by kernel_rfl) (fun _ _ _ h => h) (Or.inl ⟨by rfl, ?_⟩) ?_ ?_
  rotate_left
  ·intro w'
   go_simp
   with_reducible rfl
  rotate_left
  ·simp only [Act.put, List.setIfInBounds_toArray, List.set_cons_zero, List.set_cons_succ, i64_w, i32_w]
   rfl
  refine pure_ (i := 14) (N := some 57) (v := ?_) (a' := ?_) #[Y, Y, Y, Y, Y, Y, Y, Y, Y, Y, Y, Y, Y, Y, Y, Yn, Yn, Yn, Yn, Yn] rfl rfl (by kernel_rfl) (fun _ _ _ h => h) (Or.inl ⟨by rfl, ?_⟩) ?_ ?_
  rotate_left
  ·intro w'
   go_simp
   with_reducible rfl
  rotate_left
  ·simp only [Act.put, List.setIfInBounds_toArray, List.set_cons_zero, List.set_cons_succ, i64_w, i32_w]
   rfl
  refine take_ (i := 15) (N := some 58) (v := ?_) (a' := ?_) #[Y, Y, Y, Y, Y, Y, Y, Y, Y, Y, Y, Y, Y, Y, Y, Y, Yn, Yn, Yn, Yn] rfl rfl (by kernel_rfl) (fun _ _ _ h => h) (Or.inl ⟨by rfl, ?_⟩) hHeld ?_ ?_
  rotate_left
  ·rintro w' ⟨s0, s1, s2, s3, s4, s5, s6, s7, s8, s9, s10, s11, s12, s13, s14, s15, s16, s17⟩
   go_simp
   with_reducible rfl
  rotate_left
  ·simp only [Act.put, List.setIfInBounds_toArray, List.set_cons_zero, List.set_cons_succ, i64_w, i32_w]
   rfl
  refine take_ (i := 17) (N := some 60) (v := ?_) (a' := ?_) #[Y, Y, Y, Y, Y, Y, Y, Y, Y, Y, Y, Y, Y, Y, Y, Y, Yn, Y, Yn, Yn] rfl rfl (by kernel_rfl) (fun _ _ _ h => h) (Or.inl ⟨by rfl, ?_⟩) hHeld ?_ ?_
  rotate_left
  ·rintro w' ⟨s0, s1, s2, s3, s4, s5, s6, s7, s8, s9, s10, s11, s12, s13, s14, s15, s16, s17⟩
   go_simp
   with_reducible rfl
  rotate_left
  ·simp only [Act.put, List.setIfInBounds_toArray, List.set_cons_zero, List.set_cons_succ, i64_w, i32_w]
   rfl
  refine one_ (i := 16) (N := some 59) #[Y, Y, Y, Y, Y, Y, Y, Y, Y, Y, Y, Y, Y, Y, Y, Y, Y, Y, Yn, Yn] rfl rfl (by kernel_rfl) (by decide) (fun K hK => ?_)
  refine goes_ Tryd.func12 (by kernel_rfl) rfl #[.agg #[.int .i64 d0, .int .i64 d1, .int .i64 d2, .bool d3, .int .i64 d4, .string d5]] (by rfl) rfl rfl (by simp only [List.map_toArray, List.map_cons, List.map_nil]; rfl) ?_
  with_reducible refine (plenumlaw49_part.calls d0 d1 d2 d3 d4 d5 d0 d1 d2 d3 d4 d5 _ (Glob.below HG.out HB10.out) rfl).mono ?_
  rintro e w11 ⟨rfl, hb⟩
  refine ⟨_, rfl, ?_⟩
  have HB11 := Aside0.mk (below_step HB10.out hb)
  have HX11 := Aside0.mk (blk_below HX10.out hb)
  have HP11 := Aside0.mk (blk_below HP10.out hb)
  have HQ11 := Aside0.mk (blk_below HQ10.out hb)
  clear hb
  refine hK.out _ _ ⟨(blk_cell HX11.out 0).trans rfl, (blk_cell HX11.out 1).trans rfl, (blk_cell HX11.out 2).trans rfl, (blk_cell HX11.out 3).trans rfl, (blk_cell HX11.out 4).trans rfl, (blk_cell HX11.out 5).trans rfl, (blk_cell HP11.out 0).trans rfl, (blk_cell HP11.out 1).trans rfl, (blk_cell HP11.out 2).trans rfl, (blk_cell HP11.out 3).trans rfl, (blk_cell HP11.out 4).trans rfl, (blk_cell HP11.out 5).trans rfl, (blk_cell HQ11.out 0).trans rfl, (blk_cell HQ11.out 1).trans rfl, (blk_cell HQ11.out 2).trans rfl, (blk_cell HQ11.out 3).trans rfl, (blk_cell HQ11.out 4).trans rfl, (blk_cell HQ11.out 5).trans rfl⟩ (fun hHeld => ?_)
  clear hK K
  refine norm_ (a' := ?_) ?_ ?_
  rotate_left
  ·show Act.put _ (some 59) _ = _
   simp only [Act.put, List.setIfInBounds_toArray, List.set_cons_zero, List.set_cons_succ, i64_w, i32_w]
   rfl
  refine pure_ (i := 18) (N := some 61) (v := ?_) (a' := ?_) #[Y, Y, Y, Y, Y, Y, Y, Y, Y, Y, Y, Y, Y, Y, Y, Y, Y, Y, Y, Yn] rfl rfl (by kernel_rfl) (fun _ _ _ h => h) (Or.inl ⟨by rfl, ?_⟩) ?_ ?_
  rotate_left
  ·intro w'
   go_simp
   with_reducible rfl
  rotate_left
  ·simp only [Act.put, List.setIfInBounds_toArray, List.set_cons_zero, List.set_cons_succ, i64_w, i32_w]
   rfl
  refine pure_ (i := 19) (N := some 62) (v := ?_) (a' := ?_) #[Y, Y, Y, Y, Y, Y, Y, Y, Y, Y, Y, Y, Y, Y, Y, Y, Y, Y, Y, Y] rfl rfl (by kernel_rfl) (fun _ _ _ h => h) (Or.inl ⟨by rfl, ?_⟩) ?_ ?_
  rotate_left
  ·intro w'
   go_simp
   with_reducible rfl
  rotate_left
  ·simp only [Act.put, List.setIfInBounds_toArray, List.set_cons_zero, List.set_cons_succ, i64_w, i32_w]
   rfl
  refine done_ (by kernel_rfl) ?_
  clear x0 x1 x2 x3 x4 x5 p0 p1 p2 p3 p4 p5 q0 q1 q2 q3 q4 q5 hHeld
  go_wp2
  go_ret
  first | exact ⟨rfl, HB11.out⟩ | exact ⟨by rw [xeb], HB11.out⟩
theorem plenumlaw49_SegmentParts.calls (k : Nat) (a0_0 : Int) (a0_1 : Int) (a0_2 : Int) (a0_3 : Bool) (a0_4 : Int) (a0_5 : ByteArray) (a1 : ByteArray) (r : Bool) (w : World) (hG : Glob w) (h : plenumlaw49_SegmentParts.f k a0_0 a0_1 a0_2 a0_3 a0_4 a0_5 a1 = some r) :
  Calls Tryd.prog 3 #[.agg #[.int .i64 a0_0, .int .i64 a0_1, .int .i64 a0_2, .bool a0_3, .int .i64 a0_4, .string a0_5], .string a1] w fun e w' => e = .returned (.bool r) ∧ Below w.heap.size w w' := by
 injection h with h
 subst h
 exact parts_walk a0_0 a0_1 a0_2 a0_3 a0_4 a0_5 a1 w hG
end Go.Proofs.YtbgabhknmpbgiaaDoor.S
end
section
namespace Go.Proofs.YtbgabhknmpbgiaaDoor.Opn
open Go.RowKit Go.Proofs.YtbgabhknmpbgiaaDoorW.PrintWords
def Opn (P : Program) (t : TypeId) {α : Type} (d : Kd α) (V : α → Prop) : Prop :=
 ∀ (H : Type) (enc : TypeId × Value → H) (w : World) (fuel : Nat) (cs : List Value) (x : DataW H × List MemPlace),
  DataW.trod enc P w 0 (fun _ => true) true fuel t cs = some x → (∀ n ∈ DataW.weights P t x.1, n ≤ 140737488351232) → ∃ y, d.K w y cs ∧ V y
theorem opn_int {P : Program} {t : TypeId} {k : IntKind} (ht : P.underlying t = some (.int k)) : Opn P t (Kd.int k) (fun y => (Lit.int k y).wf = true) := by
 intro H enc w fuel cs x h _
 obtain ⟨n, rfl, _, hw⟩ := DataW.trod_int ht h
 exact ⟨n, rfl, hw⟩
theorem opn_bool {P : Program} {t : TypeId} (ht : P.underlying t = some .bool) : Opn P t Kd.bool (fun _ => True) := by
 intro H enc w fuel cs x h _
 obtain ⟨b, rfl, _⟩ := DataW.trod_bool ht h
 exact ⟨b, rfl, trivial⟩
theorem opn_string {P : Program} {t : TypeId} (ht : P.underlying t = some .string) : Opn P t Kd.string (fun y => y.size ≤ 140737488351232) := by
 intro H enc w fuel cs x h hw
 obtain ⟨s, rfl, rfl, _⟩ := DataW.trod_string ht h
 refine ⟨s, rfl, ?_⟩
 have := hw s.data.toList.length (by simp [DataW.weights])
 rw [Array.length_toList] at this
 exact this
def OpnF (P : Program) (fs : List Field) {α : Type} (d : Kd α) (V : α → Prop) (o : Nat) : Prop :=
 ∀ (H : Type) (enc : TypeId × Value → H) (w : World) (n : Nat) (cs : List Value) (xs : List (DataW H × List MemPlace)),
  o + d.sz ≤ cs.length →
  (∀ (i : Nat) (f : Field), fs[i]? = some f → ∃ x, xs[i]? = some x ∧ DataW.trod enc P w 0 (fun _ => true) true n f.type ((cs.drop f.offset).take (P.cellsOf f.type)) = some x ∧ ∀ k ∈ DataW.weights P f.type x.1, k ≤ 140737488351232) →
  ∃ y, d.K w y ((cs.drop o).take d.sz) ∧ V y
theorem opn_last {P : Program} {f : Field} {α : Type} {d : Kd α} {V : α → Prop} {o : Nat} (ho : f.offset = o) (hs : P.cellsOf f.type = d.sz) (h : Opn P f.type d V) : OpnF P [f] d V o := by
 intro H enc w n cs xs _ hx
 obtain ⟨x, _, ht, hw⟩ := hx 0 f rfl
 rw [hs, ho] at ht
 exact h H enc w n _ x ht hw
theorem take_two {α : Type} (cs : List α) (o a b : Nat) : (cs.drop o).take (a + b) = (cs.drop o).take a ++ (cs.drop (o + a)).take b := by
 rw [List.take_add, List.drop_drop]
theorem opn_cons {P : Program} {f : Field} {fs : List Field} {α β : Type} {a : Kd α} {b : Kd β} {V : α → Prop} {U : β → Prop} {o : Nat} (ho : f.offset = o) (hs : P.cellsOf f.type = a.sz) (h : Opn P f.type a V) (hr : OpnF P fs b U (o + a.sz)) :
  OpnF P (f :: fs) (Kd.pair a b) (fun y => V y.1 ∧ U y.2) o := by
 intro H enc w n cs xs hl hx
 obtain ⟨x, hx0, ht, hw⟩ := hx 0 f rfl
 rw [hs, ho] at ht
 obtain ⟨y, hy, hV⟩ := h H enc w n _ x ht hw
 have hl' : o + (a.sz + b.sz) ≤ cs.length := hl
 obtain ⟨z, hz, hU⟩ := hr H enc w n cs (xs.drop 1) (by omega) (fun i g hg => by
  obtain ⟨x', h1, h2⟩ := hx (i + 1) g (by simpa using hg)
  exact ⟨x', by rw [List.getElem?_drop, Nat.add_comm]; exact h1, h2⟩)
 exact ⟨(y, z), ⟨_, _, take_two cs o a.sz b.sz, hy, hz⟩, hV, hU⟩
theorem opn_struct {P : Program} {t : TypeId} {fa : Array Field} {fs : List Field} {α β : Type} {d : Kd α} {V : α → Prop} (ht : P.underlying t = some (.struct fa)) (hf : fa.toList = fs) (hs : P.cellsOf t = d.sz) (g : β → α) (g' : α → β) (hg : ∀ y, g (g' y) = y)
  (h : OpnF P fs d V 0) : Opn P t (Kd.iso d g) (fun x => V (g x)) := by
 intro H enc w fuel cs x hx hw
 obtain ⟨xs, n, rfl, rfl, hl, hxl, hfs⟩ := DataW.trod_struct ht hx
 obtain ⟨y, hy, hV⟩ := h H enc w n cs xs (by omega) (fun i f hi => by
  have hi' : fa[i]? = some f := by rw [← hf] at hi; simpa using hi
  have hlt : i < xs.length := by
   rw [hxl]
   exact (Array.getElem?_eq_some_iff.1 hi').1
  have h1 := hfs i f hi'
  refine ⟨xs[i], List.getElem?_eq_getElem hlt, by rw [h1, List.getElem?_eq_getElem hlt], fun k hk => hw k ?_⟩
  simp only [DataW.weights, ht]
  refine DataW.weights_mem_each (j := i) (t := f.type) (d := xs[i].1) ?_ ?_ k hk
  ·rw [List.getElem?_map, hf, hi]
   rfl
  ·rw [List.getElem?_map, List.getElem?_eq_getElem hlt]
   rfl)
 refine ⟨g' y, ?_, ?_⟩
 ·show d.K w (g (g' y)) cs
  rw [hg]
  rw [List.drop_zero, ← hs, ← hl, List.take_length] at hy
  exact hy
 ·show V (g (g' y))
  rw [hg]
  exact hV
theorem arg_struct {H : Type} {enc : TypeId × Value → H} {P : Program} {t : TypeId} {α : Type} {d : Kd α} {V : α → Prop} {W : World} {v : Value} {x : DataW H} {ps : List MemPlace} (ho : Opn P t d V) (cs : Array Value) (hv : v = .agg cs)
  (h : DataW.Trod enc P W 0 (fun _ => true) true t v x ps) (hw : ∀ n ∈ DataW.weights P t x, n ≤ 140737488351232) : ∃ y, (∃ l, v = .agg l.toArray ∧ d.K W y l) ∧ V y := by
 obtain ⟨fuel, hf⟩ := h
 obtain ⟨y, hK, hV⟩ := ho H enc W fuel _ _ hf hw
 subst hv
 exact ⟨y, ⟨cs.toList, by simp, hK⟩, hV⟩
theorem arg_weights {H : Type} {P : Program} {ts : List TypeId} {ds : List (DataW H)} (h : (DataW.weightsEach P ts ds).all (· ≤ reachBytes) = true) {j : Nat} {t : TypeId} {d : DataW H} (ht : ts[j]? = some t) (hd : ds[j]? = some d) : ∀ n ∈ DataW.weights P t d, n ≤ 140737488351232 := by
 intro n hn
 have := List.all_eq_true.1 h n (DataW.weights_mem_each ht hd n hn)
 exact of_decide_eq_true this
end Go.Proofs.YtbgabhknmpbgiaaDoor.Opn
end
section
namespace Go.Proofs.YtbgabhknmpbgiaaDoor.S
open Go.RowKit Go.Proofs.YtbgabhknmpbgiaaDoorW.PrintWords Go.Proofs.YtbgabhknmpbgiaaDoor.Opn
def V23 (x : S23) : Prop := ((Lit.int .i64 x.f0).wf = true) ∧ ((Lit.int .i64 x.f1).wf = true) ∧ ((Lit.int .i64 x.f2).wf = true) ∧ (True) ∧ ((Lit.int .i64 x.f4).wf = true) ∧ (x.f5.size ≤ 140737488351232)
theorem opn23 : Opn Tryd.prog 23 k23 V23 := opn_struct Tryd.underlying23 rfl (by kernel_rfl) (fun x : S23 => (x.f0, x.f1, x.f2, x.f3, x.f4, x.f5)) (fun y => (⟨y.1, y.2.1, y.2.2.1, y.2.2.2.1, y.2.2.2.2.1, y.2.2.2.2.2⟩ : S23)) (fun _ => rfl) (opn_cons rfl (by kernel_rfl) (opn_int Tryd.underlying3) (opn_cons rfl (by kernel_rfl) (opn_int Tryd.underlying3) (opn_cons rfl (by kernel_rfl) (opn_int Tryd.underlying3) (opn_cons rfl (by kernel_rfl) (opn_bool Tryd.underlying4) (opn_cons rfl (by kernel_rfl) (opn_int Tryd.underlying3) (opn_last rfl (by kernel_rfl) (opn_string Tryd.underlying9)))))))
end Go.Proofs.YtbgabhknmpbgiaaDoor.S
end
section
namespace Go.Proofs.YtbgabhknmpbgiaaDoor.S
open Go.RowKit Go.Proofs.YtbgabhknmpbgiaaDoorW.PrintWords
def plenumlaw49_SegmentParts.Pure : Prop := ∀ (x0 : S23) (a1 : ByteArray), (V23 x0) → (a1.size ≤ 140737488351232) → ∃ k, plenumlaw49_SegmentParts.f k x0.f0 x0.f1 x0.f2 x0.f3 x0.f4 x0.f5 a1 = some true
end Go.Proofs.YtbgabhknmpbgiaaDoor.S
end
section
namespace Go.Proofs.YtbgabhknmpbgiaaDoor.Pure
open Go.RowKit Go.Proofs.YtbgabhknmpbgiaaDoor.S
theorem SegmentParts : plenumlaw49_SegmentParts.Pure := by
 unfold plenumlaw49_SegmentParts.Pure
 intros
 exact ⟨0, rfl⟩
end Go.Proofs.YtbgabhknmpbgiaaDoor.Pure
end
section
namespace Go.Proofs.YtbgabhknmpbgiaaDoor.segmentParts
open Go.ChangeShapes Go.WideShapes Go.ChangeAt Go.RowKit
open Go.ChangeMaps (open_string shut_string)
open Go.Proofs.YtbgabhknmpbgiaaDoor.Opn Go.Proofs.YtbgabhknmpbgiaaDoorW.PrintWords Go.Proofs.YtbgabhknmpbgiaaDoor.S
set_option linter.unusedVariables false
theorem own : ownKnob Tryd.prog.godebug = none := by kernel_rfl
theorem laidOut : laidOutB Tryd.prog = true := by kernel_rfl
set_option maxHeartbeats 2000000 in
set_option maxRecDepth 100000 in
theorem lifted (os : Os) (started : os.Started) (H : Type) (enc : TypeId × Value → H) :
  ReturnsInHanded {} Tryd.checked os 3 .any (fun w args => (Rows.segmentPartsSpec.pre enc Tryd.prog Tryd.f3 Rows.segmentPartsRow.domain false w args ∧ laidMet Tryd.prog theLaid w) ∧ sizedMet enc Tryd.prog Tryd.f3 (OpenSpec.ofChange Rows.segmentPartsSpec) false w args) (Rows.segmentPartsSpec.post enc Tryd.prog Tryd.f3 false true false false) := by
 refine returnsInHanded_of_change_and (C := Tryd.checked) (X := fun w _ => laidMet Tryd.prog theLaid w) (fun _ _ _ hh h => h.of_heap hh) own started (by kernel_rfl) Tryd.func3
  (ChangeSpec.witness_at (enc := enc) (C := Tryd.checked) (os := os) (X := fun w _ => laidMet Tryd.prog theLaid w) false (laidWorld os) #[(.agg #[(.int .i64 0), (.int .i64 0), (.int .i64 0), (.bool false), (.int .i64 0), (.string ⟨#[]⟩)]), .string ByteArray.empty] 8 rfl (by kernel_rfl) (by kernel_rfl) (by kernel_rfl) (by kernel_rfl) (by kernel_rfl) (laidWorld_met os _)) ?_
 intro W base args ds gs before hval0 hW hcnd hsz0 hL0 _
 have hGl := glob_of_laid hL0
 have hsz : (DataW.weightsEach Tryd.prog (Tryd.f3.params.toList ++ Rows.segmentPartsSpec.plain.varTypes Tryd.prog) (ds ++ gs)).all (· ≤ reachBytes) = true := hsz0
 have hval : ∀ (j : Nat) t v, Tryd.f3.params[j]? = some t → args[j]? = some v → Value.okWide Tryd.prog W .any base t v := hval0
 have hW' := hW
 obtain ⟨p, q, hA0, hV, rfl, hfz, hnd⟩ := hW
 have hA : DataW.TrodAll enc Tryd.prog W 0 (fun _ => true) true Tryd.f3.params.toList args.toList ds p := hA0
 rw [Tryd.params3] at hA hval hsz
 obtain ⟨v0, vs0, d0, ds0, p0, q0, hargs, rfl, rfl, h0, r0⟩ := trodAll_cons hA
 obtain ⟨v1, vs1, d1, ds1, p1, q1, rfl, rfl, rfl, h1, r1⟩ := trodAll_cons r0
 obtain ⟨rfl, rfl, rfl⟩ := trodAll_nil r1
 obtain rfl : args = #[v0, v1] := by cases args; simp_all
 obtain ⟨rfl, rfl⟩ := trodVars_none hV
 have k0 := h0
 have lt0 : ∀ x ∈ p0, x.block < W.heap.size := by obtain ⟨m, hm⟩ := k0; exact DataW.trod_lt m _ _ _ hm
 obtain ⟨cs0, hcs0, _⟩ := okWide_struct Tryd.underlying23 (hval 0 23 v0 rfl rfl)
 obtain ⟨x0, ⟨l0, hv0, hK0⟩, hV0⟩ := arg_struct opn23 cs0 hcs0 h0 (arg_weights hsz (j := 0) (t := 23) rfl rfl)
 obtain rfl := k23_open hK0
 clear hcs0
 subst hv0
 obtain ⟨a1, rfl, rfl, rfl, y1⟩ := open_string Tryd.underlying9 (hval 1 9 v1 rfl rfl) h1
 have hV1 : a1.size ≤ 140737488351232 := by
  have z := sized_string hsz (j := 1) (t := 9) rfl rfl
  rw [Array.length_toList] at z
  exact z
 clear hA0 hval0 hsz0 hsz
 obtain ⟨k, h⟩ := Pure.SegmentParts x0 a1 hV0 hV1
 refine (S.plenumlaw49_SegmentParts.calls k x0.f0 x0.f1 x0.f2 x0.f3 x0.f4 x0.f5 a1 true W hGl  h).mono fun e W' ⟨he, bel0⟩ => ?_
 have bel : Below W.heap.size W W' := bel0
 subst he
 exact ⟨_, rfl, _, _, _, [], _, [], hW', trodAll_mk1 (shut_bool Tryd.underlying4 _), (trodAll_cons_mk (Below.trod laidOut (by kernel_rfl) (of_decide_eq_true (by kernel_rfl)) k0 bel lt0) (trodAll_cons_mk (shut_string Tryd.underlying9 y1) trodAll_mk0)), rfl, bel.frame _, fun h => by cases h⟩
theorem over : Rows.segmentPartsRow.holds Tryd.pinned (OpenSpec.ofChange Rows.segmentPartsSpec) :=
 OpenClaim.holds_of_wide 3 Tryd.f3 rfl rfl rfl rfl rfl rfl rfl ⟨rfl, rfl, rfl, rfl, rfl⟩ rfl rfl rfl rfl rfl (by kernel_rfl) Tryd.func3 (by kernel_rfl)
  (of_decide_eq_true (by kernel_rfl)) (by unfold Func.isWrapper; first | (rw [if_pos (by decide +kernel)]; kernel_rfl) | (rw [if_neg (by decide +kernel)]; exact ⟨rfl, rfl⟩))
  (fun os started H enc _ => lifted os started H enc)
theorem card_holds : Rows.SegmentPartsCardSaid :=
 Claim7.holds_tied_plain_at .later [] [.data] true (true, "890f3340eab410ca07798f741ff427d8fc963afe88bbea7d7902dec58a10bb18") false
  over (fun _ h => by cases h) (by kernel_rfl) (fun _ h => by cases h) segmentParts_row_tie rfl ⟨rfl, rfl⟩ (by kernel_rfl) rfl
  (fun f fn hf hfn => by
   obtain rfl : f = 3 := Option.some.inj ((show Tryd.prog.funcNamed "plenum/plenumlaw49.SegmentParts" = some 3 by kernel_rfl).symm.trans hf) |>.symm
   obtain rfl : fn = Tryd.f3 := (Option.some.inj (Tryd.func3.symm.trans hfn)).symm
   exact ⟨by kernel_rfl, fun j t ht => by
    rw [Tryd.params3] at ht
    have ho : t = 9 ∨ t = 23 := by
     rcases j with _ | _ | j
     all_goals simp at ht
     all_goals subst ht; simp
    obtain rfl | rfl := ho
    ·exact (show Tryd.prog.wantsStandIn 9 = false by kernel_rfl)
    ·exact (show Tryd.prog.wantsStandIn 23 = false by kernel_rfl)⟩)
  (by kernel_rfl)
#print axioms card_holds
end Go.Proofs.YtbgabhknmpbgiaaDoor.segmentParts
namespace Go.Proofs.YtbgabhknmpbgiaaDoor
theorem segmentParts_holds : Rows.SegmentPartsCardSaid := segmentParts.card_holds
end Go.Proofs.YtbgabhknmpbgiaaDoor
end
