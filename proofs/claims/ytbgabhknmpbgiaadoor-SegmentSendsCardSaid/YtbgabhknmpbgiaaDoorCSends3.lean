/- SegmentSendsCard: one part of the proof that the law answers true for every input, and that its arguments read afterwards as before. No condition. -/
import Derived.Test.YtbgabhknmpbgiaaDoorCSends2
import Derived.Outline
import Derived.Deep.OwnRows
import Derived.LoopTactic
section
namespace Go.Proofs.YtbgabhknmpbgiaaDoor.S
open Go.RowKit Go.Proofs.YtbgabhknmpbgiaaDoorW.PrintWords Go.Proofs.YtbgabhknmpbgiaaDoorW.PrintLast Go.Proofs.YtbgabhknmpbgiaaDoorW.PrintMore
set_option linter.unusedVariables false
set_option linter.unusedSimpArgs false
attribute [local go_sem] max2_int min2_int max_two min_two
def Rn.ack (r : Rn) : S23 := ⟨2, r.id, wrap64 (r.count - 1), false, 0, ⟨#[]⟩⟩
def Rn.take (r : Rn) (p2 : Int) (p3 : Bool) (p5 : ByteArray) : Rn := if p2 = r.count then { r with count := wrap64 (r.count + 1), msg := r.msg ++ bytesOf p5, state := if p3 = true then r.state else 1 } else r
def Rn.late (r : Rn) (now : Int) : Rn := { r with deadline := wrap64 (now + r.timeout) }
def Rn.handle (r : Rn) (p0 p1 p2 : Int) (p3 : Bool) (p5 : ByteArray) (now : Int) : List S23 × Rn :=
  if p1 = r.id then (if p0 = 1 then (if r.state = 1 then ([r.ack], r) else if r.state = 0 then ([((r.take p2 p3 p5).late now).ack], (r.take p2 p3 p5).late now) else ([], r)) else if p0 = 3 then (if r.state = 0 then ([], { r with state := 2 }) else ([], r)) else ([], r)) else ([], r)
set_option maxHeartbeats 16000000 in
set_option maxRecDepth 100000 in
theorem rhandle_calls (B g : Nat) (r : Rn) (p0 p1 p2 : Int) (p3 : Bool) (p4 : Int) (p5 : ByteArray) (now : Int) (w : World) (h : RcvAt B g r w) (hBS : B ≤ w.heap.size) (hlen : r.msg.length + p5.size ≤ 140737488355328) :
    Calls Tryd.prog 34 #[.pointer (some ⟨g, 0, none⟩), .agg #[.int .i64 p0, .int .i64 p1, .int .i64 p2, .bool p3, .int .i64 p4, .string p5], .int .i64 now] w fun e w' => RcvPost B w g (r.handle p0 p1 p2 p3 p5 now) e w' := by
  have hmf_ : ∀ (fn : Fn) (first cap : Array Value) (w : World), (Instr.makeFunc fn first cap).run Tryd.prog w = .ok (.func fn first cap) w := fun _ _ _ _ => rfl
  obtain ⟨id, timeout, state, count, msg, deadline⟩ := r
  have HI := Aside0.mk h
  have HBS := Aside0.mk hBS
  have HLEN := Aside0.mk (show msg.length + p5.size ≤ 140737488355328 from hlen)
  obtain ⟨v0, hG, hge, hO⟩ := h
  have HG := Aside0.mk (show w.heap[g]? = some (.cells #[.int .i64 id, .int .i64 timeout, .int .i64 state, .int .i64 count, v0, .int .i64 deadline] 113 (0, 0)) from hG)
  have HGE := Aside0.mk hge
  clear hG hge hO hBS hlen
  by_cases k1 : p1 = id
  · have k1b : (p1 != id) = false := by rw [k1]; exact bne_self_eq_false _
    by_cases k2 : p0 = 1
    · have k2b : (p0 == 1) = true := by rw [k2]; rfl
      have k2c : (p0 == 3) = false := by rw [k2]; rfl
      by_cases k3 : state = 1
      · have k3b : (state == 1) = true := by rw [k3]; rfl
        have HT := Aside0.mk (show Rn.handle ⟨id, timeout, state, count, msg, deadline⟩ p0 p1 p2 p3 p5 now = ([Rn.ack ⟨id, timeout, state, count, msg, deadline⟩], ⟨id, timeout, state, count, msg, deadline⟩) by unfold Rn.handle; rw [if_pos k1, if_pos k2, if_pos k3]; try rfl)
        rw [HT.out]
        clear k1 k2 k3
        go_enter Tryd.func34, Tryd.ntmps34
        go_wp2_with (first | ((with_reducible refine gate_dst (N := 3) rfl ?_); refine box_event ?hg (N := 3) ?hd (cs := #[.pointer (some ⟨g, 0, none⟩)]) (t := 64) ?hr ?_; (case hd => rfl); (case hg => rfl); (case hr => first | (go_simp; done) | (go_simp; rfl)); intro gr hgr w1 hbox hb; have BRa := Aside0.mk hbox; have HIa := Aside0.mk (HI.out.below hb); have HGa := Aside0.mk (blk_below HG.out hb); have HBa := Aside0.mk (hb.mono HBS.out); have HKa := Aside0.mk (KeepR.of_below hb g); clear hb hbox hgr) | ((with_reducible refine gate_dst (N := 4) rfl ?_); refine box_event ?hg (N := 4) ?hd (cs := #[.int .i64 p0, .int .i64 p1, .int .i64 p2, .bool p3, .int .i64 p4, .string p5]) (t := 23) ?hr ?_; (case hd => rfl); (case hg => rfl); (case hr => first | (go_simp; done) | (go_simp; rfl)); intro gp hgp w2 hbox hb; have BP2 := Aside0.mk hbox; have BR2 := Aside0.mk (blk_below BRa.out hb); have HI2 := Aside0.mk (HIa.out.below hb); have HG2 := Aside0.mk (blk_below HGa.out hb); have HB2 := Aside0.mk (HBa.out.trans (hb.mono (Nat.le_trans HBS.out HKa.out.size))); have HK2 := Aside0.mk (HKa.out.trans (KeepR.of_below hb g)); have HNR := Aside0.mk (blk_ne BR2.out HG2.out (by decide)); have HNP := Aside0.mk (blk_ne BP2.out HG2.out (by decide)); have cr := (blk_cell BR2.out 0).trans rfl; have c0 := (blk_cell HG2.out 0).trans rfl; have y1 := (blk_cell BP2.out 1).trans rfl; clear hb hbox hgp BRa HIa HGa HBa HKa))
        have HI3 := Aside0.mk HI2.out.drew
        have HG3 := Aside0.mk (blk_drew HG2.out)
        have BR3 := Aside0.mk (blk_drew BR2.out)
        have BP3 := Aside0.mk (blk_drew BP2.out)
        have HB3 := Aside0.mk HB2.out.drew
        have HK3 := Aside0.mk HK2.out.drew
        refine start_ (n := 7) (S := fun w' => w'.cell? ⟨gp, 1, none⟩ = some (.int .i64 p1) ∧ w'.cell? ⟨gr, 0, none⟩ = some (.pointer (some ⟨g, 0, none⟩)) ∧ w'.cell? ⟨g, 0, none⟩ = some (.int .i64 id)) (ds := []) #[Yn, Yn, Yn, Yn, Yn, Yn, Yn] (by kernel_rfl) rfl rfl ⟨y1, cr, c0⟩ (fun hHeld => ?_)
        generalize w2.drew = w3 at HI3 HG3 BR3 BP3 HB3 HK3 hHeld ⊢
        refine pure_ (i := 0) (N := some 8) (v := ?_) (a' := ?_) #[Y, Yn, Yn, Yn, Yn, Yn, Yn] rfl rfl (by kernel_rfl) (fun _ _ _ h => h) (Or.inl ⟨by rfl, ?_⟩) ?_ ?_
        rotate_left
        · intro w'
          go_simp
          with_reducible rfl
        rotate_left
        · simp only [Act.put, List.setIfInBounds_toArray, List.set_cons_zero, List.set_cons_succ, i64_w, i32_w]
          rfl
        refine take_ (i := 1) (N := some 9) (v := ?_) (a' := ?_) #[Y, Y, Yn, Yn, Yn, Yn, Yn] rfl rfl (by kernel_rfl) (fun _ _ _ h => h) (Or.inl ⟨by rfl, ?_⟩) hHeld ?_ ?_
        rotate_left
        · rintro w' ⟨s0, s1, s2⟩
          go_simp
          with_reducible rfl
        rotate_left
        · simp only [Act.put, List.setIfInBounds_toArray, List.set_cons_zero, List.set_cons_succ, i64_w, i32_w]
          rfl
        refine take_ (i := 2) (N := some 10) (v := ?_) (a' := ?_) #[Y, Y, Y, Yn, Yn, Yn, Yn] rfl rfl (by kernel_rfl) (fun _ _ _ h => h) (Or.inl ⟨by rfl, ?_⟩) hHeld ?_ ?_
        rotate_left
        · rintro w' ⟨s0, s1, s2⟩
          go_simp
          with_reducible rfl
        rotate_left
        · simp only [Act.put, List.setIfInBounds_toArray, List.set_cons_zero, List.set_cons_succ, i64_w, i32_w]
          rfl
        refine pure_ (i := 3) (N := some 11) (v := ?_) (a' := ?_) #[Y, Y, Y, Y, Yn, Yn, Yn] rfl rfl (by kernel_rfl) (fun _ _ _ h => h) (Or.inl ⟨by rfl, ?_⟩) ?_ ?_
        rotate_left
        · intro w'
          go_simp
          with_reducible rfl
        rotate_left
        · simp only [Act.put, List.setIfInBounds_toArray, List.set_cons_zero, List.set_cons_succ, i64_w, i32_w]
          rfl
        refine pure_ (i := 4) (N := some 12) (v := ?_) (a' := ?_) #[Y, Y, Y, Y, Y, Yn, Yn] rfl rfl (by kernel_rfl) (fun _ _ _ h => h) (Or.inl ⟨by rfl, ?_⟩) ?_ ?_
        rotate_left
        · intro w'
          go_simp
          with_reducible rfl
        rotate_left
        · simp only [Act.put, List.setIfInBounds_toArray, List.set_cons_zero, List.set_cons_succ, i64_w, i32_w]
          rfl
        refine take_ (i := 5) (N := some 13) (v := ?_) (a' := ?_) #[Y, Y, Y, Y, Y, Y, Yn] rfl rfl (by kernel_rfl) (fun _ _ _ h => h) (Or.inl ⟨by rfl, ?_⟩) hHeld ?_ ?_
        rotate_left
        · rintro w' ⟨s0, s1, s2⟩
          go_simp
          with_reducible rfl
        rotate_left
        · simp only [Act.put, List.setIfInBounds_toArray, List.set_cons_zero, List.set_cons_succ, i64_w, i32_w]
          rfl
        refine pure_ (i := 6) (N := some 14) (v := ?_) (a' := ?_) #[Y, Y, Y, Y, Y, Y, Y] rfl rfl (by kernel_rfl) (fun _ _ _ h => h) (Or.inl ⟨by rfl, ?_⟩) ?_ ?_
        rotate_left
        · intro w'
          go_simp
          with_reducible rfl
        rotate_left
        · simp only [Act.put, List.setIfInBounds_toArray, List.set_cons_zero, List.set_cons_succ, i64_w, i32_w]
          rfl
        refine done_ (by kernel_rfl) ?_
        clear cr c0 y1 hHeld
        have cr := (blk_cell BR3.out 0).trans rfl
        have y0 := (blk_cell BP3.out 0).trans rfl
        have c2 := (blk_cell HG3.out 2).trans rfl
        have c0 := (blk_cell HG3.out 0).trans rfl
        have c3 := (blk_cell HG3.out 3).trans rfl
        go_wp2
        have HI4 := Aside0.mk HI3.out.drew
        have HG4 := Aside0.mk (blk_drew HG3.out)
        have BR4 := Aside0.mk (blk_drew BR3.out)
        have BP4 := Aside0.mk (blk_drew BP3.out)
        have HB4 := Aside0.mk HB3.out.drew
        have HK4 := Aside0.mk HK3.out.drew
        refine start_ (n := 12) (S := fun w' => w'.cell? ⟨gr, 0, none⟩ = some (.pointer (some ⟨g, 0, none⟩)) ∧ w'.cell? ⟨g, 0, none⟩ = some (.int .i64 id) ∧ w'.cell? ⟨g, 3, none⟩ = some (.int .i64 count)) (ds := []) #[Yn, Yn, Yn, Yn, Yn, Yn, Yn, Yn, Yn, Yn, Yn, Yn] (by kernel_rfl) rfl rfl ⟨cr, c0, c3⟩ (fun hHeld => ?_)
        generalize w3.drew = w4 at HI4 HG4 BR4 BP4 HB4 HK4 hHeld ⊢
        refine take_ (i := 0) (N := some 2) (v := ?_) (a' := ?_) #[Y, Yn, Yn, Yn, Yn, Yn, Yn, Yn, Yn, Yn, Yn, Yn] rfl rfl (by kernel_rfl) (fun _ _ _ h => h) (Or.inl ⟨by rfl, ?_⟩) hHeld ?_ ?_
        rotate_left
        · rintro w' ⟨s0, s1, s2⟩
          go_simp
          with_reducible rfl
        rotate_left
        · simp only [Act.put, List.setIfInBounds_toArray, List.set_cons_zero, List.set_cons_succ, i64_w, i32_w]
          rfl
        refine pure_ (i := 1) (N := some 3) (v := ?_) (a' := ?_) #[Y, Y, Yn, Yn, Yn, Yn, Yn, Yn, Yn, Yn, Yn, Yn] rfl rfl (by kernel_rfl) (fun _ _ _ h => h) (Or.inl ⟨by rfl, ?_⟩) ?_ ?_
        rotate_left
        · intro w'
          go_simp
          with_reducible rfl
        rotate_left
        · simp only [Act.put, List.setIfInBounds_toArray, List.set_cons_zero, List.set_cons_succ, i64_w, i32_w]
          rfl
        refine pure_ (i := 2) (N := some 4) (v := ?_) (a' := ?_) #[Y, Y, Y, Yn, Yn, Yn, Yn, Yn, Yn, Yn, Yn, Yn] rfl rfl (by kernel_rfl) (fun _ _ _ h => h) (Or.inl ⟨by rfl, ?_⟩) ?_ ?_
        rotate_left
        · intro w'
          go_simp
          with_reducible rfl
        rotate_left
        · simp only [Act.put, List.setIfInBounds_toArray, List.set_cons_zero, List.set_cons_succ, i64_w, i32_w]
          rfl
        refine take_ (i := 3) (N := some 5) (v := ?_) (a' := ?_) #[Y, Y, Y, Y, Yn, Yn, Yn, Yn, Yn, Yn, Yn, Yn] rfl rfl (by kernel_rfl) (fun _ _ _ h => h) (Or.inl ⟨by rfl, ?_⟩) hHeld ?_ ?_
        rotate_left
        · rintro w' ⟨s0, s1, s2⟩
          go_simp
          with_reducible rfl
        rotate_left
        · simp only [Act.put, List.setIfInBounds_toArray, List.set_cons_zero, List.set_cons_succ, i64_w, i32_w]
          rfl
        refine take_ (i := 4) (N := some 6) (v := ?_) (a' := ?_) #[Y, Y, Y, Y, Y, Yn, Yn, Yn, Yn, Yn, Yn, Yn] rfl rfl (by kernel_rfl) (fun _ _ _ h => h) (Or.inl ⟨by rfl, ?_⟩) hHeld ?_ ?_
        rotate_left
        · rintro w' ⟨s0, s1, s2⟩
          go_simp
          with_reducible rfl
        rotate_left
        · simp only [Act.put, List.setIfInBounds_toArray, List.set_cons_zero, List.set_cons_succ, i64_w, i32_w]
          rfl
        refine pure_ (i := 5) (N := some 7) (v := ?_) (a' := ?_) #[Y, Y, Y, Y, Y, Y, Yn, Yn, Yn, Yn, Yn, Yn] rfl rfl (by kernel_rfl) (fun _ _ _ h => h) (Or.inl ⟨by rfl, ?_⟩) ?_ ?_
        rotate_left
        · intro w'
          go_simp
          with_reducible rfl
        rotate_left
        · simp only [Act.put, List.setIfInBounds_toArray, List.set_cons_zero, List.set_cons_succ, i64_w, i32_w]
          rfl
        refine pure_ (i := 6) (N := some 8) (v := ?_) (a' := ?_) #[Y, Y, Y, Y, Y, Y, Y, Yn, Yn, Yn, Yn, Yn] rfl rfl (by kernel_rfl) (fun _ _ _ h => h) (Or.inl ⟨by rfl, ?_⟩) ?_ ?_
        rotate_left
        · intro w'
          go_simp
          with_reducible rfl
        rotate_left
        · simp only [Act.put, List.setIfInBounds_toArray, List.set_cons_zero, List.set_cons_succ, i64_w, i32_w]
          rfl
        refine take_ (i := 7) (N := some 9) (v := ?_) (a' := ?_) #[Y, Y, Y, Y, Y, Y, Y, Y, Yn, Yn, Yn, Yn] rfl rfl (by kernel_rfl) (fun _ _ _ h => h) (Or.inl ⟨by rfl, ?_⟩) hHeld ?_ ?_
        rotate_left
        · rintro w' ⟨s0, s1, s2⟩
          go_simp
          with_reducible rfl
        rotate_left
        · simp only [Act.put, List.setIfInBounds_toArray, List.set_cons_zero, List.set_cons_succ, i64_w, i32_w]
          rfl
        refine pure_ (i := 8) (N := some 10) (v := ?_) (a' := ?_) #[Y, Y, Y, Y, Y, Y, Y, Y, Y, Yn, Yn, Yn] rfl rfl (by kernel_rfl) (fun _ _ _ h => h) (Or.inl ⟨by rfl, ?_⟩) ?_ ?_
        rotate_left
        · intro w'
          go_simp
          with_reducible rfl
        rotate_left
        · simp only [Act.put, List.setIfInBounds_toArray, List.set_cons_zero, List.set_cons_succ, i64_w, i32_w]
          rfl
        refine pure_ (i := 9) (N := some 11) (v := ?_) (a' := ?_) #[Y, Y, Y, Y, Y, Y, Y, Y, Y, Y, Yn, Yn] rfl rfl (by kernel_rfl) (fun _ _ _ h => h) (Or.inl ⟨by rfl, ?_⟩) ?_ ?_
        rotate_left
        · intro w'
          go_simp
          with_reducible rfl
        rotate_left
        · simp only [Act.put, List.setIfInBounds_toArray, List.set_cons_zero, List.set_cons_succ, i64_w, i32_w]
          rfl
        refine one_ (i := 10) (N := some 12) #[Y, Y, Y, Y, Y, Y, Y, Y, Y, Y, Y, Yn] rfl rfl (by kernel_rfl) (by decide) (fun K hK => ?_)
        refine value_ (w1 := ?_) (v := ?_) (by rfl) rfl ?_ ?_
        rotate_left 2
        · go_simp
          constructor
          · rfl
          · rfl
        refine hK.out _ _ ⟨(blk_cell (by (with_reducible repeat (first | refine blk_drewN ?_ _ | refine blk_drew ?_ | refine blk_alloc ?_ _)); exact BR4.out) 0).trans rfl, (blk_cell (by (with_reducible repeat (first | refine blk_drewN ?_ _ | refine blk_drew ?_ | refine blk_alloc ?_ _)); exact HG4.out) 0).trans rfl, (blk_cell (by (with_reducible repeat (first | refine blk_drewN ?_ _ | refine blk_drew ?_ | refine blk_alloc ?_ _)); exact HG4.out) 3).trans rfl⟩ (fun hHeld => ?_)
        clear hK K
        refine norm_ (a' := ?_) ?_ ?_
        rotate_left
        · show Act.put _ (some 12) _ = _
          simp only [Act.put, List.setIfInBounds_toArray, List.set_cons_zero, List.set_cons_succ, i64_w, i32_w]
          rfl
        refine pure_ (i := 11) (N := some 1) (v := ?_) (a' := ?_) #[Y, Y, Y, Y, Y, Y, Y, Y, Y, Y, Y, Y] rfl rfl (by kernel_rfl) (fun _ _ _ h => h) (Or.inl ⟨by rfl, ?_⟩) ?_ ?_
        rotate_left
        · intro w'
          go_simp
          with_reducible rfl
        rotate_left
        · simp only [Act.put, List.setIfInBounds_toArray, List.set_cons_zero, List.set_cons_succ, i64_w, i32_w]
          rfl
        refine done_ (by kernel_rfl) ?_
        go_wp2
        go_ret
        exact ⟨_, rfl, V_one23 (Rn.ack ⟨id, timeout, state, count, msg, deadline⟩) _ rfl HK4.out.size, (by first | exact HI4.out.alloc _ | (rw [HMS.out]; exact HI4.out.alloc _)), HB4.out.alloc (Nat.le_trans HBS.out HK4.out.size) _, HK4.out.alloc _⟩
      · have k3b : (state == 1) = false := beq_false_of_ne k3
        by_cases k4 : state = 0
        · have k4b : (state == 0) = true := by rw [k4]; rfl
          by_cases k5 : p2 = count
          · have k5b : (p2 == count) = true := by rw [k5]; exact beq_self_eq_true _
            rcases Bool.eq_false_or_eq_true p3 with k6 | k6
            · have K6 := Aside0.mk k6
              have HT := Aside0.mk (show Rn.handle ⟨id, timeout, state, count, msg, deadline⟩ p0 p1 p2 p3 p5 now = ([Rn.ack ⟨id, timeout, state, wrap64 (count + 1), msg ++ bytesOf p5, wrap64 (now + timeout)⟩], ⟨id, timeout, state, wrap64 (count + 1), msg ++ bytesOf p5, wrap64 (now + timeout)⟩) by unfold Rn.handle; rw [if_pos k1, if_pos k2, if_neg k3, if_pos k4, show Rn.take ⟨id, timeout, state, count, msg, deadline⟩ p2 p3 p5 = ⟨id, timeout, state, wrap64 (count + 1), msg ++ bytesOf p5, deadline⟩ from by unfold Rn.take; rw [if_pos k5, k6]; rfl]; try rfl)
              rw [HT.out]
              clear k1 k2 k3 k4 k5
              go_enter Tryd.func34, Tryd.ntmps34
              go_wp2_with (first | ((with_reducible refine gate_dst (N := 3) rfl ?_); refine box_event ?hg (N := 3) ?hd (cs := #[.pointer (some ⟨g, 0, none⟩)]) (t := 64) ?hr ?_; (case hd => rfl); (case hg => rfl); (case hr => first | (go_simp; done) | (go_simp; rfl)); intro gr hgr w1 hbox hb; have BRa := Aside0.mk hbox; have HIa := Aside0.mk (HI.out.below hb); have HGa := Aside0.mk (blk_below HG.out hb); have HBa := Aside0.mk (hb.mono HBS.out); have HKa := Aside0.mk (KeepR.of_below hb g); clear hb hbox hgr) | ((with_reducible refine gate_dst (N := 4) rfl ?_); refine box_event ?hg (N := 4) ?hd (cs := #[.int .i64 p0, .int .i64 p1, .int .i64 p2, .bool p3, .int .i64 p4, .string p5]) (t := 23) ?hr ?_; (case hd => rfl); (case hg => rfl); (case hr => first | (go_simp; done) | (go_simp; rfl)); intro gp hgp w2 hbox hb; have BP2 := Aside0.mk hbox; have BR2 := Aside0.mk (blk_below BRa.out hb); have HI2 := Aside0.mk (HIa.out.below hb); have HG2 := Aside0.mk (blk_below HGa.out hb); have HB2 := Aside0.mk (HBa.out.trans (hb.mono (Nat.le_trans HBS.out HKa.out.size))); have HK2 := Aside0.mk (HKa.out.trans (KeepR.of_below hb g)); have HNR := Aside0.mk (blk_ne BR2.out HG2.out (by decide)); have HNP := Aside0.mk (blk_ne BP2.out HG2.out (by decide)); have cr := (blk_cell BR2.out 0).trans rfl; have c0 := (blk_cell HG2.out 0).trans rfl; have y1 := (blk_cell BP2.out 1).trans rfl; clear hb hbox hgp BRa HIa HGa HBa HKa))
              have HI3 := Aside0.mk HI2.out.drew
              have HG3 := Aside0.mk (blk_drew HG2.out)
              have BR3 := Aside0.mk (blk_drew BR2.out)
              have BP3 := Aside0.mk (blk_drew BP2.out)
              have HB3 := Aside0.mk HB2.out.drew
              have HK3 := Aside0.mk HK2.out.drew
              refine start_ (n := 7) (S := fun w' => w'.cell? ⟨gp, 1, none⟩ = some (.int .i64 p1) ∧ w'.cell? ⟨gr, 0, none⟩ = some (.pointer (some ⟨g, 0, none⟩)) ∧ w'.cell? ⟨g, 0, none⟩ = some (.int .i64 id)) (ds := []) #[Yn, Yn, Yn, Yn, Yn, Yn, Yn] (by kernel_rfl) rfl rfl ⟨y1, cr, c0⟩ (fun hHeld => ?_)
              generalize w2.drew = w3 at HI3 HG3 BR3 BP3 HB3 HK3 hHeld ⊢
              refine pure_ (i := 0) (N := some 8) (v := ?_) (a' := ?_) #[Y, Yn, Yn, Yn, Yn, Yn, Yn] rfl rfl (by kernel_rfl) (fun _ _ _ h => h) (Or.inl ⟨by rfl, ?_⟩) ?_ ?_
              rotate_left
              · intro w'
                go_simp
                with_reducible rfl
              rotate_left
              · simp only [Act.put, List.setIfInBounds_toArray, List.set_cons_zero, List.set_cons_succ, i64_w, i32_w]
                rfl
              refine take_ (i := 1) (N := some 9) (v := ?_) (a' := ?_) #[Y, Y, Yn, Yn, Yn, Yn, Yn] rfl rfl (by kernel_rfl) (fun _ _ _ h => h) (Or.inl ⟨by rfl, ?_⟩) hHeld ?_ ?_
              rotate_left
              · rintro w' ⟨s0, s1, s2⟩
                go_simp
                with_reducible rfl
              rotate_left
              · simp only [Act.put, List.setIfInBounds_toArray, List.set_cons_zero, List.set_cons_succ, i64_w, i32_w]
                rfl
              refine take_ (i := 2) (N := some 10) (v := ?_) (a' := ?_) #[Y, Y, Y, Yn, Yn, Yn, Yn] rfl rfl (by kernel_rfl) (fun _ _ _ h => h) (Or.inl ⟨by rfl, ?_⟩) hHeld ?_ ?_
              rotate_left
              · rintro w' ⟨s0, s1, s2⟩
                go_simp
                with_reducible rfl
              rotate_left
              · simp only [Act.put, List.setIfInBounds_toArray, List.set_cons_zero, List.set_cons_succ, i64_w, i32_w]
                rfl
              refine pure_ (i := 3) (N := some 11) (v := ?_) (a' := ?_) #[Y, Y, Y, Y, Yn, Yn, Yn] rfl rfl (by kernel_rfl) (fun _ _ _ h => h) (Or.inl ⟨by rfl, ?_⟩) ?_ ?_
              rotate_left
              · intro w'
                go_simp
                with_reducible rfl
              rotate_left
              · simp only [Act.put, List.setIfInBounds_toArray, List.set_cons_zero, List.set_cons_succ, i64_w, i32_w]
                rfl
              refine pure_ (i := 4) (N := some 12) (v := ?_) (a' := ?_) #[Y, Y, Y, Y, Y, Yn, Yn] rfl rfl (by kernel_rfl) (fun _ _ _ h => h) (Or.inl ⟨by rfl, ?_⟩) ?_ ?_
              rotate_left
              · intro w'
                go_simp
                with_reducible rfl
              rotate_left
              · simp only [Act.put, List.setIfInBounds_toArray, List.set_cons_zero, List.set_cons_succ, i64_w, i32_w]
                rfl
              refine take_ (i := 5) (N := some 13) (v := ?_) (a' := ?_) #[Y, Y, Y, Y, Y, Y, Yn] rfl rfl (by kernel_rfl) (fun _ _ _ h => h) (Or.inl ⟨by rfl, ?_⟩) hHeld ?_ ?_
              rotate_left
              · rintro w' ⟨s0, s1, s2⟩
                go_simp
                with_reducible rfl
              rotate_left
              · simp only [Act.put, List.setIfInBounds_toArray, List.set_cons_zero, List.set_cons_succ, i64_w, i32_w]
                rfl
              refine pure_ (i := 6) (N := some 14) (v := ?_) (a' := ?_) #[Y, Y, Y, Y, Y, Y, Y] rfl rfl (by kernel_rfl) (fun _ _ _ h => h) (Or.inl ⟨by rfl, ?_⟩) ?_ ?_
              rotate_left
              · intro w'
                go_simp
                with_reducible rfl
              rotate_left
              · simp only [Act.put, List.setIfInBounds_toArray, List.set_cons_zero, List.set_cons_succ, i64_w, i32_w]
                rfl
              refine done_ (by kernel_rfl) ?_
              clear cr c0 y1 hHeld
              have cr := (blk_cell BR3.out 0).trans rfl
              have y0 := (blk_cell BP3.out 0).trans rfl
              have c2 := (blk_cell HG3.out 2).trans rfl
              have y2 := (blk_cell BP3.out 2).trans rfl
              have c3 := (blk_cell HG3.out 3).trans rfl
              go_wp2
              have HI4 := Aside0.mk HI3.out.drew
              have HG4 := Aside0.mk (blk_drew HG3.out)
              have BR4 := Aside0.mk (blk_drew BR3.out)
              have BP4 := Aside0.mk (blk_drew BP3.out)
              have HB4 := Aside0.mk HB3.out.drew
              have HK4 := Aside0.mk HK3.out.drew
              refine start_ (n := 7) (S := fun w' => w'.cell? ⟨gp, 2, none⟩ = some (.int .i64 p2) ∧ w'.cell? ⟨gr, 0, none⟩ = some (.pointer (some ⟨g, 0, none⟩)) ∧ w'.cell? ⟨g, 3, none⟩ = some (.int .i64 count)) (ds := []) #[Yn, Yn, Yn, Yn, Yn, Yn, Yn] (by kernel_rfl) rfl rfl ⟨y2, cr, c3⟩ (fun hHeld => ?_)
              generalize w3.drew = w4 at HI4 HG4 BR4 BP4 HB4 HK4 hHeld ⊢
              refine pure_ (i := 0) (N := some 40) (v := ?_) (a' := ?_) #[Y, Yn, Yn, Yn, Yn, Yn, Yn] rfl rfl (by kernel_rfl) (fun _ _ _ h => h) (Or.inl ⟨by rfl, ?_⟩) ?_ ?_
              rotate_left
              · intro w'
                go_simp
                with_reducible rfl
              rotate_left
              · simp only [Act.put, List.setIfInBounds_toArray, List.set_cons_zero, List.set_cons_succ, i64_w, i32_w]
                rfl
              refine take_ (i := 1) (N := some 41) (v := ?_) (a' := ?_) #[Y, Y, Yn, Yn, Yn, Yn, Yn] rfl rfl (by kernel_rfl) (fun _ _ _ h => h) (Or.inl ⟨by rfl, ?_⟩) hHeld ?_ ?_
              rotate_left
              · rintro w' ⟨s0, s1, s2⟩
                go_simp
                with_reducible rfl
              rotate_left
              · simp only [Act.put, List.setIfInBounds_toArray, List.set_cons_zero, List.set_cons_succ, i64_w, i32_w]
                rfl
              refine take_ (i := 2) (N := some 42) (v := ?_) (a' := ?_) #[Y, Y, Y, Yn, Yn, Yn, Yn] rfl rfl (by kernel_rfl) (fun _ _ _ h => h) (Or.inl ⟨by rfl, ?_⟩) hHeld ?_ ?_
              rotate_left
              · rintro w' ⟨s0, s1, s2⟩
                go_simp
                with_reducible rfl
              rotate_left
              · simp only [Act.put, List.setIfInBounds_toArray, List.set_cons_zero, List.set_cons_succ, i64_w, i32_w]
                rfl
              refine pure_ (i := 3) (N := some 43) (v := ?_) (a' := ?_) #[Y, Y, Y, Y, Yn, Yn, Yn] rfl rfl (by kernel_rfl) (fun _ _ _ h => h) (Or.inl ⟨by rfl, ?_⟩) ?_ ?_
              rotate_left
              · intro w'
                go_simp
                with_reducible rfl
              rotate_left
              · simp only [Act.put, List.setIfInBounds_toArray, List.set_cons_zero, List.set_cons_succ, i64_w, i32_w]
                rfl
              refine pure_ (i := 4) (N := some 44) (v := ?_) (a' := ?_) #[Y, Y, Y, Y, Y, Yn, Yn] rfl rfl (by kernel_rfl) (fun _ _ _ h => h) (Or.inl ⟨by rfl, ?_⟩) ?_ ?_
              rotate_left
              · intro w'
                go_simp
                with_reducible rfl
              rotate_left
              · simp only [Act.put, List.setIfInBounds_toArray, List.set_cons_zero, List.set_cons_succ, i64_w, i32_w]
                rfl
              refine take_ (i := 5) (N := some 45) (v := ?_) (a' := ?_) #[Y, Y, Y, Y, Y, Y, Yn] rfl rfl (by kernel_rfl) (fun _ _ _ h => h) (Or.inl ⟨by rfl, ?_⟩) hHeld ?_ ?_
              rotate_left
              · rintro w' ⟨s0, s1, s2⟩
                go_simp
                with_reducible rfl
              rotate_left
              · simp only [Act.put, List.setIfInBounds_toArray, List.set_cons_zero, List.set_cons_succ, i64_w, i32_w]
                rfl
              refine pure_ (i := 6) (N := some 46) (v := ?_) (a' := ?_) #[Y, Y, Y, Y, Y, Y, Y] rfl rfl (by kernel_rfl) (fun _ _ _ h => h) (Or.inl ⟨by rfl, ?_⟩) ?_ ?_
              rotate_left
              · intro w'
                go_simp
                with_reducible rfl
              rotate_left
              · simp only [Act.put, List.setIfInBounds_toArray, List.set_cons_zero, List.set_cons_succ, i64_w, i32_w]
                rfl
              refine done_ (by kernel_rfl) ?_
              clear cr y0 c2 y2 c3 hHeld
              have cr := (blk_cell BR4.out 0).trans rfl
              have c3 := (blk_cell HG4.out 3).trans rfl
              have f3 := blk_frozen HG4.out 3
              have HI5 := Aside0.mk (HI4.out.set_count (wrap64 (count + 1)))
              have HG5 := Aside0.mk (blk_put HG4.out 3 (.int .i64 (wrap64 (count + 1))) rfl)
              have BR5 := Aside0.mk (blk_far BR4.out (p := ⟨g, 3, none⟩) HNR.out (.int .i64 (wrap64 (count + 1))))
              have BP5 := Aside0.mk (blk_far BP4.out (p := ⟨g, 3, none⟩) HNP.out (.int .i64 (wrap64 (count + 1))))
              have HB5 := Aside0.mk (HB4.out.setCell (p := ⟨g, 3, none⟩) HGE.out (.int .i64 (wrap64 (count + 1))))
              have HK5 := Aside0.mk (HK4.out.set 3 (.int .i64 (wrap64 (count + 1))))
              go_wp2
              generalize w4.setCell ⟨g, 3, none⟩ (.int .i64 (wrap64 (count + 1))) = w5 at HI5 HG5 BR5 BP5 HB5 HK5 ⊢
              clear cr c3 f3
              have cr := (blk_cell BR5.out 0).trans rfl
              have y5 := (blk_cell BP5.out 5).trans rfl
              obtain ⟨v5, hG5, hge5, hO5⟩ := HI5.out
              have hO5' : Kd.R (Kd.int .u8) 5 w5 B (fun _ => True) v5 msg := hO5
              obtain ⟨A5, k5', e5⟩ := Kd.R_slice hO5'
              subst e5
              have HG5' := Aside0.mk hG5
              have HO5 := Aside0.mk hO5'
              clear hG5 hge5 hO5 hO5'
              clear HG5
              have HG5 := HG5'
              clear HG5'
              have c4 := (blk_cell HG5.out 4).trans rfl
              have HO6 := Aside0.mk (Kd.R_drew HO5.out)
              have HI6 := Aside0.mk HI5.out.drew
              have HG6 := Aside0.mk (blk_drew HG5.out)
              have BR6 := Aside0.mk (blk_drew BR5.out)
              have BP6 := Aside0.mk (blk_drew BP5.out)
              have HB6 := Aside0.mk HB5.out.drew
              have HK6 := Aside0.mk HK5.out.drew
              refine start_ (n := 11) (S := fun w' => w'.cell? ⟨gr, 0, none⟩ = some (.pointer (some ⟨g, 0, none⟩)) ∧ w'.cell? ⟨g, 4, none⟩ = some (.slice A5 msg.length k5') ∧ w'.cell? ⟨gp, 5, none⟩ = some (.string p5)) (ds := [10]) #[Yn, Yn, Yn, Yn, Yn, Yn, Yn, Yn, Yn, Yn, Yn] (by kernel_rfl) rfl rfl ⟨cr, c4, y5⟩ (fun hHeld => ?_)
              generalize w5.drew = w6 at HI6 HG6 BR6 BP6 HB6 HK6 HO6 hHeld ⊢
              refine pure_ (i := 5) (N := some 59) (v := ?_) (a' := ?_) #[Yn, Yn, Yn, Yn, Yn, Y, Yn, Yn, Yn, Yn, Yn] rfl rfl (by kernel_rfl) (fun _ _ _ h => h) (Or.inl ⟨by rfl, ?_⟩) ?_ ?_
              rotate_left
              · intro w'
                go_simp
                with_reducible rfl
              rotate_left
              · simp only [Act.put, List.setIfInBounds_toArray, List.set_cons_zero, List.set_cons_succ, i64_w, i32_w]
                rfl
              refine take_ (i := 0) (N := some 54) (v := ?_) (a' := ?_) #[Y, Yn, Yn, Yn, Yn, Y, Yn, Yn, Yn, Yn, Yn] rfl rfl (by kernel_rfl) (fun _ _ _ h => h) (Or.inl ⟨by rfl, ?_⟩) hHeld ?_ ?_
              rotate_left
              · rintro w' ⟨s0, s1, s2⟩
                go_simp
                with_reducible rfl
              rotate_left
              · simp only [Act.put, List.setIfInBounds_toArray, List.set_cons_zero, List.set_cons_succ, i64_w, i32_w]
                rfl
              refine take_ (i := 1) (N := some 55) (v := ?_) (a' := ?_) #[Y, Y, Yn, Yn, Yn, Y, Yn, Yn, Yn, Yn, Yn] rfl rfl (by kernel_rfl) (fun _ _ _ h => h) (Or.inl ⟨by rfl, ?_⟩) hHeld ?_ ?_
              rotate_left
              · rintro w' ⟨s0, s1, s2⟩
                go_simp
                with_reducible rfl
              rotate_left
              · simp only [Act.put, List.setIfInBounds_toArray, List.set_cons_zero, List.set_cons_succ, i64_w, i32_w]
                rfl
              refine pure_ (i := 2) (N := some 56) (v := ?_) (a' := ?_) #[Y, Y, Y, Yn, Yn, Y, Yn, Yn, Yn, Yn, Yn] rfl rfl (by kernel_rfl) (fun _ _ _ h => h) (Or.inl ⟨by rfl, ?_⟩) ?_ ?_
              rotate_left
              · intro w'
                go_simp
                with_reducible rfl
              rotate_left
              · simp only [Act.put, List.setIfInBounds_toArray, List.set_cons_zero, List.set_cons_succ, i64_w, i32_w]
                rfl
              refine pure_ (i := 3) (N := some 57) (v := ?_) (a' := ?_) #[Y, Y, Y, Y, Yn, Y, Yn, Yn, Yn, Yn, Yn] rfl rfl (by kernel_rfl) (fun _ _ _ h => h) (Or.inl ⟨by rfl, ?_⟩) ?_ ?_
              rotate_left
              · intro w'
                go_simp
                with_reducible rfl
              rotate_left
              · simp only [Act.put, List.setIfInBounds_toArray, List.set_cons_zero, List.set_cons_succ, i64_w, i32_w]
                rfl
              refine take_ (i := 4) (N := some 58) (v := ?_) (a' := ?_) #[Y, Y, Y, Y, Y, Y, Yn, Yn, Yn, Yn, Yn] rfl rfl (by kernel_rfl) (fun _ _ _ h => h) (Or.inl ⟨by rfl, ?_⟩) hHeld ?_ ?_
              rotate_left
              · rintro w' ⟨s0, s1, s2⟩
                go_simp
                with_reducible rfl
              rotate_left
              · simp only [Act.put, List.setIfInBounds_toArray, List.set_cons_zero, List.set_cons_succ, i64_w, i32_w]
                rfl
              refine take_ (i := 6) (N := some 60) (v := ?_) (a' := ?_) #[Y, Y, Y, Y, Y, Y, Y, Yn, Yn, Yn, Yn] rfl rfl (by kernel_rfl) (fun _ _ _ h => h) (Or.inl ⟨by rfl, ?_⟩) hHeld ?_ ?_
              rotate_left
              · rintro w' ⟨s0, s1, s2⟩
                go_simp
                with_reducible rfl
              rotate_left
              · simp only [Act.put, List.setIfInBounds_toArray, List.set_cons_zero, List.set_cons_succ, i64_w, i32_w]
                rfl
              refine one_ (i := 7) (N := some 61) #[Y, Y, Y, Y, Y, Y, Y, Y, Yn, Yn, Yn] rfl rfl (by kernel_rfl) (by decide) (fun K hK => ?_)
              refine step_append_str (w0 := w6) B (by rfl) (.tmp 58) (.tmp 60) 80 9 5 rfl Tryd.underlying80 Tryd.underlying9 info5 (.slice A5 msg.length k5') msg p5 rfl rfl HO6.out (Below.refl _ _) (Nat.le_trans HBS.out HK6.out.size) HLEN.out ?_
              intro v1 w7 ho hb hg
              obtain ⟨ms, HMS⟩ : ∃ ms, Aside0 (msg ++ bytesOf p5 = ms) := ⟨_, ⟨rfl⟩⟩
              rw [HMS.out] at ho
              obtain ⟨A7, k7, e7⟩ := Kd.R_slice ho
              subst e7
              have HS7 := Aside0.mk (rcv_step HG6.out HGE.out HO6.out ho hb hg)
              have BR7 := Aside0.mk (blk_grown BR6.out hg (Kd.R_ne HO6.out BR6.out (by decide)))
              have BP7 := Aside0.mk (blk_grown BP6.out hg (Kd.R_ne HO6.out BP6.out (by decide)))
              have HB7 := Aside0.mk (HB6.out.trans HS7.out.bel1)
              have HK7 := Aside0.mk (HK6.out.trans HS7.out.keep1)
              have f4 := blk_frozen HS7.out.blk 4
              have c4 := (blk_cell HS7.out.blk 4).trans rfl
              clear ho hb hg
              refine hK.out _ _ ⟨(blk_cell BR7.out 0).trans rfl, c4, (blk_cell BP7.out 5).trans rfl⟩ (fun hHeld => ?_)
              clear hK K
              refine norm_ (a' := ?_) ?_ ?_
              rotate_left
              · show Act.put _ (some 61) _ = _
                simp only [Act.put, List.setIfInBounds_toArray, List.set_cons_zero, List.set_cons_succ, i64_w, i32_w]
                rfl
              refine pure_ (i := 8) (N := some 62) (v := ?_) (a' := ?_) #[Y, Y, Y, Y, Y, Y, Y, Y, Y, Yn, Yn] rfl rfl (by kernel_rfl) (fun _ _ _ h => h) (Or.inl ⟨by rfl, ?_⟩) ?_ ?_
              rotate_left
              · intro w'
                go_simp
                with_reducible rfl
              rotate_left
              · simp only [Act.put, List.setIfInBounds_toArray, List.set_cons_zero, List.set_cons_succ, i64_w, i32_w]
                rfl
              refine pure_ (i := 9) (N := some 63) (v := ?_) (a' := ?_) #[Y, Y, Y, Y, Y, Y, Y, Y, Y, Y, Yn] rfl rfl (by kernel_rfl) (fun _ _ _ h => h) (Or.inl ⟨by rfl, ?_⟩) ?_ ?_
              rotate_left
              · intro w'
                go_simp
                with_reducible rfl
              rotate_left
              · simp only [Act.put, List.setIfInBounds_toArray, List.set_cons_zero, List.set_cons_succ, i64_w, i32_w]
                rfl
              refine last_ (i := 10) (N := none) #[Y, Y, Y, Y, Y, Y, Y, Y, Y, Y, Y] rfl rfl (by kernel_rfl) (by decide) (fun K hK => ?_)
              refine skip_ (w1 := ?_) (by rfl) rfl ?_ ?_
              rotate_left
              · go_simp
                rfl
              refine hK.out _ _ ?_
              clear hK K
              refine done_ (by kernel_rfl) ?_
              have HI8 := Aside0.mk HS7.out.at_
              have BR8 := Aside0.mk (blk_far BR7.out (p := ⟨g, 4, none⟩) HNR.out (.slice A7 ms.length k7))
              have BP8 := Aside0.mk (blk_far BP7.out (p := ⟨g, 4, none⟩) HNP.out (.slice A7 ms.length k7))
              have HB8 := Aside0.mk (HB7.out.setCell (p := ⟨g, 4, none⟩) HGE.out (.slice A7 ms.length k7))
              have HK8 := Aside0.mk (HK7.out.set 4 (.slice A7 ms.length k7))
              generalize w7.setCell ⟨g, 4, none⟩ (.slice A7 ms.length k7) = w8 at HI8 BR8 BP8 HB8 HK8 ⊢
              obtain ⟨v8, hG8, hge8, hO8⟩ := HI8.out
              have HG8 := Aside0.mk hG8
              clear hG8 hge8 hO8
              clear cr c4 y5 f4 hHeld
              have y3 := (blk_cell BP8.out 3).trans rfl
              have cr := (blk_cell BR8.out 0).trans rfl
              have c1 := (blk_cell HG8.out 1).trans rfl
              have y3b : p3 = true := K6.out
              go_wp2
              have HI9 := Aside0.mk HI8.out.drew
              have HG9 := Aside0.mk (blk_drew HG8.out)
              have BR9 := Aside0.mk (blk_drew BR8.out)
              have BP9 := Aside0.mk (blk_drew BP8.out)
              have HB9 := Aside0.mk HB8.out.drew
              have HK9 := Aside0.mk HK8.out.drew
              refine start_ (n := 10) (S := fun w' => w'.cell? ⟨gr, 0, none⟩ = some (.pointer (some ⟨g, 0, none⟩)) ∧ w'.cell? ⟨g, 1, none⟩ = some (.int .i64 timeout)) (ds := [9]) #[Yn, Yn, Yn, Yn, Yn, Yn, Yn, Yn, Yn, Yn] (by kernel_rfl) rfl rfl ⟨cr, c1⟩ (fun hHeld => ?_)
              generalize w8.drew = w9 at HI9 HG9 BR9 BP9 HB9 HK9 hHeld ⊢
              refine pure_ (i := 1) (N := some 71) (v := ?_) (a' := ?_) #[Yn, Y, Yn, Yn, Yn, Yn, Yn, Yn, Yn, Yn] rfl rfl (by kernel_rfl) (fun _ _ _ h => h) (Or.inl ⟨by rfl, ?_⟩) ?_ ?_
              rotate_left
              · intro w'
                go_simp
                with_reducible rfl
              rotate_left
              · simp only [Act.put, List.setIfInBounds_toArray, List.set_cons_zero, List.set_cons_succ, i64_w, i32_w]
                rfl
              refine take_ (i := 0) (N := some 70) (v := ?_) (a' := ?_) #[Y, Y, Yn, Yn, Yn, Yn, Yn, Yn, Yn, Yn] rfl rfl (by kernel_rfl) (fun _ _ _ h => h) (Or.inl ⟨by rfl, ?_⟩) hHeld ?_ ?_
              rotate_left
              · rintro w' ⟨s0, s1⟩
                go_simp
                with_reducible rfl
              rotate_left
              · simp only [Act.put, List.setIfInBounds_toArray, List.set_cons_zero, List.set_cons_succ, i64_w, i32_w]
                rfl
              refine take_ (i := 2) (N := some 72) (v := ?_) (a' := ?_) #[Y, Y, Y, Yn, Yn, Yn, Yn, Yn, Yn, Yn] rfl rfl (by kernel_rfl) (fun _ _ _ h => h) (Or.inl ⟨by rfl, ?_⟩) hHeld ?_ ?_
              rotate_left
              · rintro w' ⟨s0, s1⟩
                go_simp
                with_reducible rfl
              rotate_left
              · simp only [Act.put, List.setIfInBounds_toArray, List.set_cons_zero, List.set_cons_succ, i64_w, i32_w]
                rfl
              refine pure_ (i := 3) (N := some 73) (v := ?_) (a' := ?_) #[Y, Y, Y, Y, Yn, Yn, Yn, Yn, Yn, Yn] rfl rfl (by kernel_rfl) (fun _ _ _ h => h) (Or.inl ⟨by rfl, ?_⟩) ?_ ?_
              rotate_left
              · intro w'
                go_simp
                with_reducible rfl
              rotate_left
              · simp only [Act.put, List.setIfInBounds_toArray, List.set_cons_zero, List.set_cons_succ, i64_w, i32_w]
                rfl
              refine pure_ (i := 4) (N := some 74) (v := ?_) (a' := ?_) #[Y, Y, Y, Y, Y, Yn, Yn, Yn, Yn, Yn] rfl rfl (by kernel_rfl) (fun _ _ _ h => h) (Or.inl ⟨by rfl, ?_⟩) ?_ ?_
              rotate_left
              · intro w'
                go_simp
                with_reducible rfl
              rotate_left
              · simp only [Act.put, List.setIfInBounds_toArray, List.set_cons_zero, List.set_cons_succ, i64_w, i32_w]
                rfl
              refine take_ (i := 5) (N := some 75) (v := ?_) (a' := ?_) #[Y, Y, Y, Y, Y, Y, Yn, Yn, Yn, Yn] rfl rfl (by kernel_rfl) (fun _ _ _ h => h) (Or.inl ⟨by rfl, ?_⟩) hHeld ?_ ?_
              rotate_left
              · rintro w' ⟨s0, s1⟩
                go_simp
                with_reducible rfl
              rotate_left
              · simp only [Act.put, List.setIfInBounds_toArray, List.set_cons_zero, List.set_cons_succ, i64_w, i32_w]
                rfl
              refine pure_ (i := 6) (N := some 76) (v := ?_) (a' := ?_) #[Y, Y, Y, Y, Y, Y, Y, Yn, Yn, Yn] rfl rfl (by kernel_rfl) (fun _ _ _ h => h) (Or.inl ⟨by rfl, ?_⟩) ?_ ?_
              rotate_left
              · intro w'
                go_simp
                with_reducible rfl
              rotate_left
              · simp only [Act.put, List.setIfInBounds_toArray, List.set_cons_zero, List.set_cons_succ, i64_w, i32_w]
                rfl
              refine pure_ (i := 7) (N := some 77) (v := ?_) (a' := ?_) #[Y, Y, Y, Y, Y, Y, Y, Y, Yn, Yn] rfl rfl (by kernel_rfl) (fun _ _ _ h => h) (Or.inl ⟨by rfl, ?_⟩) ?_ ?_
              rotate_left
              · intro w'
                go_simp
                with_reducible rfl
              rotate_left
              · simp only [Act.put, List.setIfInBounds_toArray, List.set_cons_zero, List.set_cons_succ, i64_w, i32_w]
                rfl
              refine pure_ (i := 8) (N := some 78) (v := ?_) (a' := ?_) #[Y, Y, Y, Y, Y, Y, Y, Y, Y, Yn] rfl rfl (by kernel_rfl) (fun _ _ _ h => h) (Or.inl ⟨by rfl, ?_⟩) ?_ ?_
              rotate_left
              · intro w'
                go_simp
                with_reducible rfl
              rotate_left
              · simp only [Act.put, List.setIfInBounds_toArray, List.set_cons_zero, List.set_cons_succ, i64_w, i32_w]
                rfl
              refine last_ (i := 9) (N := none) #[Y, Y, Y, Y, Y, Y, Y, Y, Y, Y] rfl rfl (by kernel_rfl) (by decide) (fun K hK => ?_)
              have f5 := blk_frozen HG9.out 5
              have c5 := (blk_cell HG9.out 5).trans rfl
              refine skip_ (w1 := ?_) (by rfl) rfl ?_ ?_
              rotate_left
              · go_simp
                rfl
              refine hK.out _ _ ?_
              clear hK K
              refine done_ (by kernel_rfl) ?_
              have HI10 := Aside0.mk (HI9.out.set_deadline (wrap64 (now + timeout)))
              have HG10 := Aside0.mk (blk_put HG9.out 5 (.int .i64 (wrap64 (now + timeout))) rfl)
              have BR10 := Aside0.mk (blk_far BR9.out (p := ⟨g, 5, none⟩) HNR.out (.int .i64 (wrap64 (now + timeout))))
              have BP10 := Aside0.mk (blk_far BP9.out (p := ⟨g, 5, none⟩) HNP.out (.int .i64 (wrap64 (now + timeout))))
              have HB10 := Aside0.mk (HB9.out.setCell (p := ⟨g, 5, none⟩) HGE.out (.int .i64 (wrap64 (now + timeout))))
              have HK10 := Aside0.mk (HK9.out.set 5 (.int .i64 (wrap64 (now + timeout))))
              generalize w9.setCell ⟨g, 5, none⟩ (.int .i64 (wrap64 (now + timeout))) = w10 at HI10 HG10 BR10 BP10 HB10 HK10 ⊢
              clear cr c1 f5 c5 hHeld
              have cr := (blk_cell BR10.out 0).trans rfl
              have c0 := (blk_cell HG10.out 0).trans rfl
              have c3 := (blk_cell HG10.out 3).trans rfl
              go_wp2
              have HI11 := Aside0.mk HI10.out.drew
              have HG11 := Aside0.mk (blk_drew HG10.out)
              have BR11 := Aside0.mk (blk_drew BR10.out)
              have BP11 := Aside0.mk (blk_drew BP10.out)
              have HB11 := Aside0.mk HB10.out.drew
              have HK11 := Aside0.mk HK10.out.drew
              refine start_ (n := 12) (S := fun w' => w'.cell? ⟨gr, 0, none⟩ = some (.pointer (some ⟨g, 0, none⟩)) ∧ w'.cell? ⟨g, 0, none⟩ = some (.int .i64 id) ∧ w'.cell? ⟨g, 3, none⟩ = some (.int .i64 (wrap64 (count + 1)))) (ds := []) #[Yn, Yn, Yn, Yn, Yn, Yn, Yn, Yn, Yn, Yn, Yn, Yn] (by kernel_rfl) rfl rfl ⟨cr, c0, c3⟩ (fun hHeld => ?_)
              generalize w10.drew = w11 at HI11 HG11 BR11 BP11 HB11 HK11 hHeld ⊢
              refine take_ (i := 0) (N := some 2) (v := ?_) (a' := ?_) #[Y, Yn, Yn, Yn, Yn, Yn, Yn, Yn, Yn, Yn, Yn, Yn] rfl rfl (by kernel_rfl) (fun _ _ _ h => h) (Or.inl ⟨by rfl, ?_⟩) hHeld ?_ ?_
              rotate_left
              · rintro w' ⟨s0, s1, s2⟩
                go_simp
                with_reducible rfl
              rotate_left
              · simp only [Act.put, List.setIfInBounds_toArray, List.set_cons_zero, List.set_cons_succ, i64_w, i32_w]
                rfl
              refine pure_ (i := 1) (N := some 3) (v := ?_) (a' := ?_) #[Y, Y, Yn, Yn, Yn, Yn, Yn, Yn, Yn, Yn, Yn, Yn] rfl rfl (by kernel_rfl) (fun _ _ _ h => h) (Or.inl ⟨by rfl, ?_⟩) ?_ ?_
              rotate_left
              · intro w'
                go_simp
                with_reducible rfl
              rotate_left
              · simp only [Act.put, List.setIfInBounds_toArray, List.set_cons_zero, List.set_cons_succ, i64_w, i32_w]
                rfl
              refine pure_ (i := 2) (N := some 4) (v := ?_) (a' := ?_) #[Y, Y, Y, Yn, Yn, Yn, Yn, Yn, Yn, Yn, Yn, Yn] rfl rfl (by kernel_rfl) (fun _ _ _ h => h) (Or.inl ⟨by rfl, ?_⟩) ?_ ?_
              rotate_left
              · intro w'
                go_simp
                with_reducible rfl
              rotate_left
              · simp only [Act.put, List.setIfInBounds_toArray, List.set_cons_zero, List.set_cons_succ, i64_w, i32_w]
                rfl
              refine take_ (i := 3) (N := some 5) (v := ?_) (a' := ?_) #[Y, Y, Y, Y, Yn, Yn, Yn, Yn, Yn, Yn, Yn, Yn] rfl rfl (by kernel_rfl) (fun _ _ _ h => h) (Or.inl ⟨by rfl, ?_⟩) hHeld ?_ ?_
              rotate_left
              · rintro w' ⟨s0, s1, s2⟩
                go_simp
                with_reducible rfl
              rotate_left
              · simp only [Act.put, List.setIfInBounds_toArray, List.set_cons_zero, List.set_cons_succ, i64_w, i32_w]
                rfl
              refine take_ (i := 4) (N := some 6) (v := ?_) (a' := ?_) #[Y, Y, Y, Y, Y, Yn, Yn, Yn, Yn, Yn, Yn, Yn] rfl rfl (by kernel_rfl) (fun _ _ _ h => h) (Or.inl ⟨by rfl, ?_⟩) hHeld ?_ ?_
              rotate_left
              · rintro w' ⟨s0, s1, s2⟩
                go_simp
                with_reducible rfl
              rotate_left
              · simp only [Act.put, List.setIfInBounds_toArray, List.set_cons_zero, List.set_cons_succ, i64_w, i32_w]
                rfl
              refine pure_ (i := 5) (N := some 7) (v := ?_) (a' := ?_) #[Y, Y, Y, Y, Y, Y, Yn, Yn, Yn, Yn, Yn, Yn] rfl rfl (by kernel_rfl) (fun _ _ _ h => h) (Or.inl ⟨by rfl, ?_⟩) ?_ ?_
              rotate_left
              · intro w'
                go_simp
                with_reducible rfl
              rotate_left
              · simp only [Act.put, List.setIfInBounds_toArray, List.set_cons_zero, List.set_cons_succ, i64_w, i32_w]
                rfl
              refine pure_ (i := 6) (N := some 8) (v := ?_) (a' := ?_) #[Y, Y, Y, Y, Y, Y, Y, Yn, Yn, Yn, Yn, Yn] rfl rfl (by kernel_rfl) (fun _ _ _ h => h) (Or.inl ⟨by rfl, ?_⟩) ?_ ?_
              rotate_left
              · intro w'
                go_simp
                with_reducible rfl
              rotate_left
              · simp only [Act.put, List.setIfInBounds_toArray, List.set_cons_zero, List.set_cons_succ, i64_w, i32_w]
                rfl
              refine take_ (i := 7) (N := some 9) (v := ?_) (a' := ?_) #[Y, Y, Y, Y, Y, Y, Y, Y, Yn, Yn, Yn, Yn] rfl rfl (by kernel_rfl) (fun _ _ _ h => h) (Or.inl ⟨by rfl, ?_⟩) hHeld ?_ ?_
              rotate_left
              · rintro w' ⟨s0, s1, s2⟩
                go_simp
                with_reducible rfl
              rotate_left
              · simp only [Act.put, List.setIfInBounds_toArray, List.set_cons_zero, List.set_cons_succ, i64_w, i32_w]
                rfl
              refine pure_ (i := 8) (N := some 10) (v := ?_) (a' := ?_) #[Y, Y, Y, Y, Y, Y, Y, Y, Y, Yn, Yn, Yn] rfl rfl (by kernel_rfl) (fun _ _ _ h => h) (Or.inl ⟨by rfl, ?_⟩) ?_ ?_
              rotate_left
              · intro w'
                go_simp
                with_reducible rfl
              rotate_left
              · simp only [Act.put, List.setIfInBounds_toArray, List.set_cons_zero, List.set_cons_succ, i64_w, i32_w]
                rfl
              refine pure_ (i := 9) (N := some 11) (v := ?_) (a' := ?_) #[Y, Y, Y, Y, Y, Y, Y, Y, Y, Y, Yn, Yn] rfl rfl (by kernel_rfl) (fun _ _ _ h => h) (Or.inl ⟨by rfl, ?_⟩) ?_ ?_
              rotate_left
              · intro w'
                go_simp
                with_reducible rfl
              rotate_left
              · simp only [Act.put, List.setIfInBounds_toArray, List.set_cons_zero, List.set_cons_succ, i64_w, i32_w]
                rfl
              refine one_ (i := 10) (N := some 12) #[Y, Y, Y, Y, Y, Y, Y, Y, Y, Y, Y, Yn] rfl rfl (by kernel_rfl) (by decide) (fun K hK => ?_)
              refine value_ (w1 := ?_) (v := ?_) (by rfl) rfl ?_ ?_
              rotate_left 2
              · go_simp
                constructor
                · rfl
                · rfl
              refine hK.out _ _ ⟨(blk_cell (by (with_reducible repeat (first | refine blk_drewN ?_ _ | refine blk_drew ?_ | refine blk_alloc ?_ _)); exact BR11.out) 0).trans rfl, (blk_cell (by (with_reducible repeat (first | refine blk_drewN ?_ _ | refine blk_drew ?_ | refine blk_alloc ?_ _)); exact HG11.out) 0).trans rfl, (blk_cell (by (with_reducible repeat (first | refine blk_drewN ?_ _ | refine blk_drew ?_ | refine blk_alloc ?_ _)); exact HG11.out) 3).trans rfl⟩ (fun hHeld => ?_)
              clear hK K
              refine norm_ (a' := ?_) ?_ ?_
              rotate_left
              · show Act.put _ (some 12) _ = _
                simp only [Act.put, List.setIfInBounds_toArray, List.set_cons_zero, List.set_cons_succ, i64_w, i32_w]
                rfl
              refine pure_ (i := 11) (N := some 1) (v := ?_) (a' := ?_) #[Y, Y, Y, Y, Y, Y, Y, Y, Y, Y, Y, Y] rfl rfl (by kernel_rfl) (fun _ _ _ h => h) (Or.inl ⟨by rfl, ?_⟩) ?_ ?_
              rotate_left
              · intro w'
                go_simp
                with_reducible rfl
              rotate_left
              · simp only [Act.put, List.setIfInBounds_toArray, List.set_cons_zero, List.set_cons_succ, i64_w, i32_w]
                rfl
              refine done_ (by kernel_rfl) ?_
              go_wp2
              go_ret
              exact ⟨_, rfl, V_one23 (Rn.ack ⟨id, timeout, state, (wrap64 (count + 1)), ms, wrap64 (now + timeout)⟩) _ rfl HK11.out.size, (by first | exact HI11.out.alloc _ | (rw [HMS.out]; exact HI11.out.alloc _)), HB11.out.alloc (Nat.le_trans HBS.out HK11.out.size) _, HK11.out.alloc _⟩
            · have K6 := Aside0.mk k6
              have HT := Aside0.mk (show Rn.handle ⟨id, timeout, state, count, msg, deadline⟩ p0 p1 p2 p3 p5 now = ([Rn.ack ⟨id, timeout, 1, wrap64 (count + 1), msg ++ bytesOf p5, wrap64 (now + timeout)⟩], ⟨id, timeout, 1, wrap64 (count + 1), msg ++ bytesOf p5, wrap64 (now + timeout)⟩) by unfold Rn.handle; rw [if_pos k1, if_pos k2, if_neg k3, if_pos k4, show Rn.take ⟨id, timeout, state, count, msg, deadline⟩ p2 p3 p5 = ⟨id, timeout, 1, wrap64 (count + 1), msg ++ bytesOf p5, deadline⟩ from by unfold Rn.take; rw [if_pos k5, k6]; rfl]; try rfl)
              rw [HT.out]
              clear k1 k2 k3 k4 k5
              go_enter Tryd.func34, Tryd.ntmps34
              go_wp2_with (first | ((with_reducible refine gate_dst (N := 3) rfl ?_); refine box_event ?hg (N := 3) ?hd (cs := #[.pointer (some ⟨g, 0, none⟩)]) (t := 64) ?hr ?_; (case hd => rfl); (case hg => rfl); (case hr => first | (go_simp; done) | (go_simp; rfl)); intro gr hgr w1 hbox hb; have BRa := Aside0.mk hbox; have HIa := Aside0.mk (HI.out.below hb); have HGa := Aside0.mk (blk_below HG.out hb); have HBa := Aside0.mk (hb.mono HBS.out); have HKa := Aside0.mk (KeepR.of_below hb g); clear hb hbox hgr) | ((with_reducible refine gate_dst (N := 4) rfl ?_); refine box_event ?hg (N := 4) ?hd (cs := #[.int .i64 p0, .int .i64 p1, .int .i64 p2, .bool p3, .int .i64 p4, .string p5]) (t := 23) ?hr ?_; (case hd => rfl); (case hg => rfl); (case hr => first | (go_simp; done) | (go_simp; rfl)); intro gp hgp w2 hbox hb; have BP2 := Aside0.mk hbox; have BR2 := Aside0.mk (blk_below BRa.out hb); have HI2 := Aside0.mk (HIa.out.below hb); have HG2 := Aside0.mk (blk_below HGa.out hb); have HB2 := Aside0.mk (HBa.out.trans (hb.mono (Nat.le_trans HBS.out HKa.out.size))); have HK2 := Aside0.mk (HKa.out.trans (KeepR.of_below hb g)); have HNR := Aside0.mk (blk_ne BR2.out HG2.out (by decide)); have HNP := Aside0.mk (blk_ne BP2.out HG2.out (by decide)); have cr := (blk_cell BR2.out 0).trans rfl; have c0 := (blk_cell HG2.out 0).trans rfl; have y1 := (blk_cell BP2.out 1).trans rfl; clear hb hbox hgp BRa HIa HGa HBa HKa))
              have HI3 := Aside0.mk HI2.out.drew
              have HG3 := Aside0.mk (blk_drew HG2.out)
              have BR3 := Aside0.mk (blk_drew BR2.out)
              have BP3 := Aside0.mk (blk_drew BP2.out)
              have HB3 := Aside0.mk HB2.out.drew
              have HK3 := Aside0.mk HK2.out.drew
              refine start_ (n := 7) (S := fun w' => w'.cell? ⟨gp, 1, none⟩ = some (.int .i64 p1) ∧ w'.cell? ⟨gr, 0, none⟩ = some (.pointer (some ⟨g, 0, none⟩)) ∧ w'.cell? ⟨g, 0, none⟩ = some (.int .i64 id)) (ds := []) #[Yn, Yn, Yn, Yn, Yn, Yn, Yn] (by kernel_rfl) rfl rfl ⟨y1, cr, c0⟩ (fun hHeld => ?_)
              generalize w2.drew = w3 at HI3 HG3 BR3 BP3 HB3 HK3 hHeld ⊢
              refine pure_ (i := 0) (N := some 8) (v := ?_) (a' := ?_) #[Y, Yn, Yn, Yn, Yn, Yn, Yn] rfl rfl (by kernel_rfl) (fun _ _ _ h => h) (Or.inl ⟨by rfl, ?_⟩) ?_ ?_
              rotate_left
              · intro w'
                go_simp
                with_reducible rfl
              rotate_left
              · simp only [Act.put, List.setIfInBounds_toArray, List.set_cons_zero, List.set_cons_succ, i64_w, i32_w]
                rfl
              refine take_ (i := 1) (N := some 9) (v := ?_) (a' := ?_) #[Y, Y, Yn, Yn, Yn, Yn, Yn] rfl rfl (by kernel_rfl) (fun _ _ _ h => h) (Or.inl ⟨by rfl, ?_⟩) hHeld ?_ ?_
              rotate_left
              · rintro w' ⟨s0, s1, s2⟩
                go_simp
                with_reducible rfl
              rotate_left
              · simp only [Act.put, List.setIfInBounds_toArray, List.set_cons_zero, List.set_cons_succ, i64_w, i32_w]
                rfl
              refine take_ (i := 2) (N := some 10) (v := ?_) (a' := ?_) #[Y, Y, Y, Yn, Yn, Yn, Yn] rfl rfl (by kernel_rfl) (fun _ _ _ h => h) (Or.inl ⟨by rfl, ?_⟩) hHeld ?_ ?_
              rotate_left
              · rintro w' ⟨s0, s1, s2⟩
                go_simp
                with_reducible rfl
              rotate_left
              · simp only [Act.put, List.setIfInBounds_toArray, List.set_cons_zero, List.set_cons_succ, i64_w, i32_w]
                rfl
              refine pure_ (i := 3) (N := some 11) (v := ?_) (a' := ?_) #[Y, Y, Y, Y, Yn, Yn, Yn] rfl rfl (by kernel_rfl) (fun _ _ _ h => h) (Or.inl ⟨by rfl, ?_⟩) ?_ ?_
              rotate_left
              · intro w'
                go_simp
                with_reducible rfl
              rotate_left
              · simp only [Act.put, List.setIfInBounds_toArray, List.set_cons_zero, List.set_cons_succ, i64_w, i32_w]
                rfl
              refine pure_ (i := 4) (N := some 12) (v := ?_) (a' := ?_) #[Y, Y, Y, Y, Y, Yn, Yn] rfl rfl (by kernel_rfl) (fun _ _ _ h => h) (Or.inl ⟨by rfl, ?_⟩) ?_ ?_
              rotate_left
              · intro w'
                go_simp
                with_reducible rfl
              rotate_left
              · simp only [Act.put, List.setIfInBounds_toArray, List.set_cons_zero, List.set_cons_succ, i64_w, i32_w]
                rfl
              refine take_ (i := 5) (N := some 13) (v := ?_) (a' := ?_) #[Y, Y, Y, Y, Y, Y, Yn] rfl rfl (by kernel_rfl) (fun _ _ _ h => h) (Or.inl ⟨by rfl, ?_⟩) hHeld ?_ ?_
              rotate_left
              · rintro w' ⟨s0, s1, s2⟩
                go_simp
                with_reducible rfl
              rotate_left
              · simp only [Act.put, List.setIfInBounds_toArray, List.set_cons_zero, List.set_cons_succ, i64_w, i32_w]
                rfl
              refine pure_ (i := 6) (N := some 14) (v := ?_) (a' := ?_) #[Y, Y, Y, Y, Y, Y, Y] rfl rfl (by kernel_rfl) (fun _ _ _ h => h) (Or.inl ⟨by rfl, ?_⟩) ?_ ?_
              rotate_left
              · intro w'
                go_simp
                with_reducible rfl
              rotate_left
              · simp only [Act.put, List.setIfInBounds_toArray, List.set_cons_zero, List.set_cons_succ, i64_w, i32_w]
                rfl
              refine done_ (by kernel_rfl) ?_
              clear cr c0 y1 hHeld
              have cr := (blk_cell BR3.out 0).trans rfl
              have y0 := (blk_cell BP3.out 0).trans rfl
              have c2 := (blk_cell HG3.out 2).trans rfl
              have y2 := (blk_cell BP3.out 2).trans rfl
              have c3 := (blk_cell HG3.out 3).trans rfl
              go_wp2
              have HI4 := Aside0.mk HI3.out.drew
              have HG4 := Aside0.mk (blk_drew HG3.out)
              have BR4 := Aside0.mk (blk_drew BR3.out)
              have BP4 := Aside0.mk (blk_drew BP3.out)
              have HB4 := Aside0.mk HB3.out.drew
              have HK4 := Aside0.mk HK3.out.drew
              refine start_ (n := 7) (S := fun w' => w'.cell? ⟨gp, 2, none⟩ = some (.int .i64 p2) ∧ w'.cell? ⟨gr, 0, none⟩ = some (.pointer (some ⟨g, 0, none⟩)) ∧ w'.cell? ⟨g, 3, none⟩ = some (.int .i64 count)) (ds := []) #[Yn, Yn, Yn, Yn, Yn, Yn, Yn] (by kernel_rfl) rfl rfl ⟨y2, cr, c3⟩ (fun hHeld => ?_)
              generalize w3.drew = w4 at HI4 HG4 BR4 BP4 HB4 HK4 hHeld ⊢
              refine pure_ (i := 0) (N := some 40) (v := ?_) (a' := ?_) #[Y, Yn, Yn, Yn, Yn, Yn, Yn] rfl rfl (by kernel_rfl) (fun _ _ _ h => h) (Or.inl ⟨by rfl, ?_⟩) ?_ ?_
              rotate_left
              · intro w'
                go_simp
                with_reducible rfl
              rotate_left
              · simp only [Act.put, List.setIfInBounds_toArray, List.set_cons_zero, List.set_cons_succ, i64_w, i32_w]
                rfl
              refine take_ (i := 1) (N := some 41) (v := ?_) (a' := ?_) #[Y, Y, Yn, Yn, Yn, Yn, Yn] rfl rfl (by kernel_rfl) (fun _ _ _ h => h) (Or.inl ⟨by rfl, ?_⟩) hHeld ?_ ?_
              rotate_left
              · rintro w' ⟨s0, s1, s2⟩
                go_simp
                with_reducible rfl
              rotate_left
              · simp only [Act.put, List.setIfInBounds_toArray, List.set_cons_zero, List.set_cons_succ, i64_w, i32_w]
                rfl
              refine take_ (i := 2) (N := some 42) (v := ?_) (a' := ?_) #[Y, Y, Y, Yn, Yn, Yn, Yn] rfl rfl (by kernel_rfl) (fun _ _ _ h => h) (Or.inl ⟨by rfl, ?_⟩) hHeld ?_ ?_
              rotate_left
              · rintro w' ⟨s0, s1, s2⟩
                go_simp
                with_reducible rfl
              rotate_left
              · simp only [Act.put, List.setIfInBounds_toArray, List.set_cons_zero, List.set_cons_succ, i64_w, i32_w]
                rfl
              refine pure_ (i := 3) (N := some 43) (v := ?_) (a' := ?_) #[Y, Y, Y, Y, Yn, Yn, Yn] rfl rfl (by kernel_rfl) (fun _ _ _ h => h) (Or.inl ⟨by rfl, ?_⟩) ?_ ?_
              rotate_left
              · intro w'
                go_simp
                with_reducible rfl
              rotate_left
              · simp only [Act.put, List.setIfInBounds_toArray, List.set_cons_zero, List.set_cons_succ, i64_w, i32_w]
                rfl
              refine pure_ (i := 4) (N := some 44) (v := ?_) (a' := ?_) #[Y, Y, Y, Y, Y, Yn, Yn] rfl rfl (by kernel_rfl) (fun _ _ _ h => h) (Or.inl ⟨by rfl, ?_⟩) ?_ ?_
              rotate_left
              · intro w'
                go_simp
                with_reducible rfl
              rotate_left
              · simp only [Act.put, List.setIfInBounds_toArray, List.set_cons_zero, List.set_cons_succ, i64_w, i32_w]
                rfl
              refine take_ (i := 5) (N := some 45) (v := ?_) (a' := ?_) #[Y, Y, Y, Y, Y, Y, Yn] rfl rfl (by kernel_rfl) (fun _ _ _ h => h) (Or.inl ⟨by rfl, ?_⟩) hHeld ?_ ?_
              rotate_left
              · rintro w' ⟨s0, s1, s2⟩
                go_simp
                with_reducible rfl
              rotate_left
              · simp only [Act.put, List.setIfInBounds_toArray, List.set_cons_zero, List.set_cons_succ, i64_w, i32_w]
                rfl
              refine pure_ (i := 6) (N := some 46) (v := ?_) (a' := ?_) #[Y, Y, Y, Y, Y, Y, Y] rfl rfl (by kernel_rfl) (fun _ _ _ h => h) (Or.inl ⟨by rfl, ?_⟩) ?_ ?_
              rotate_left
              · intro w'
                go_simp
                with_reducible rfl
              rotate_left
              · simp only [Act.put, List.setIfInBounds_toArray, List.set_cons_zero, List.set_cons_succ, i64_w, i32_w]
                rfl
              refine done_ (by kernel_rfl) ?_
              clear cr y0 c2 y2 c3 hHeld
              have cr := (blk_cell BR4.out 0).trans rfl
              have c3 := (blk_cell HG4.out 3).trans rfl
              have f3 := blk_frozen HG4.out 3
              have HI5 := Aside0.mk (HI4.out.set_count (wrap64 (count + 1)))
              have HG5 := Aside0.mk (blk_put HG4.out 3 (.int .i64 (wrap64 (count + 1))) rfl)
              have BR5 := Aside0.mk (blk_far BR4.out (p := ⟨g, 3, none⟩) HNR.out (.int .i64 (wrap64 (count + 1))))
              have BP5 := Aside0.mk (blk_far BP4.out (p := ⟨g, 3, none⟩) HNP.out (.int .i64 (wrap64 (count + 1))))
              have HB5 := Aside0.mk (HB4.out.setCell (p := ⟨g, 3, none⟩) HGE.out (.int .i64 (wrap64 (count + 1))))
              have HK5 := Aside0.mk (HK4.out.set 3 (.int .i64 (wrap64 (count + 1))))
              go_wp2
              generalize w4.setCell ⟨g, 3, none⟩ (.int .i64 (wrap64 (count + 1))) = w5 at HI5 HG5 BR5 BP5 HB5 HK5 ⊢
              clear cr c3 f3
              have cr := (blk_cell BR5.out 0).trans rfl
              have y5 := (blk_cell BP5.out 5).trans rfl
              obtain ⟨v5, hG5, hge5, hO5⟩ := HI5.out
              have hO5' : Kd.R (Kd.int .u8) 5 w5 B (fun _ => True) v5 msg := hO5
              obtain ⟨A5, k5', e5⟩ := Kd.R_slice hO5'
              subst e5
              have HG5' := Aside0.mk hG5
              have HO5 := Aside0.mk hO5'
              clear hG5 hge5 hO5 hO5'
              clear HG5
              have HG5 := HG5'
              clear HG5'
              have c4 := (blk_cell HG5.out 4).trans rfl
              have HO6 := Aside0.mk (Kd.R_drew HO5.out)
              have HI6 := Aside0.mk HI5.out.drew
              have HG6 := Aside0.mk (blk_drew HG5.out)
              have BR6 := Aside0.mk (blk_drew BR5.out)
              have BP6 := Aside0.mk (blk_drew BP5.out)
              have HB6 := Aside0.mk HB5.out.drew
              have HK6 := Aside0.mk HK5.out.drew
              refine start_ (n := 11) (S := fun w' => w'.cell? ⟨gr, 0, none⟩ = some (.pointer (some ⟨g, 0, none⟩)) ∧ w'.cell? ⟨g, 4, none⟩ = some (.slice A5 msg.length k5') ∧ w'.cell? ⟨gp, 5, none⟩ = some (.string p5)) (ds := [10]) #[Yn, Yn, Yn, Yn, Yn, Yn, Yn, Yn, Yn, Yn, Yn] (by kernel_rfl) rfl rfl ⟨cr, c4, y5⟩ (fun hHeld => ?_)
              generalize w5.drew = w6 at HI6 HG6 BR6 BP6 HB6 HK6 HO6 hHeld ⊢
              refine pure_ (i := 5) (N := some 59) (v := ?_) (a' := ?_) #[Yn, Yn, Yn, Yn, Yn, Y, Yn, Yn, Yn, Yn, Yn] rfl rfl (by kernel_rfl) (fun _ _ _ h => h) (Or.inl ⟨by rfl, ?_⟩) ?_ ?_
              rotate_left
              · intro w'
                go_simp
                with_reducible rfl
              rotate_left
              · simp only [Act.put, List.setIfInBounds_toArray, List.set_cons_zero, List.set_cons_succ, i64_w, i32_w]
                rfl
              refine take_ (i := 0) (N := some 54) (v := ?_) (a' := ?_) #[Y, Yn, Yn, Yn, Yn, Y, Yn, Yn, Yn, Yn, Yn] rfl rfl (by kernel_rfl) (fun _ _ _ h => h) (Or.inl ⟨by rfl, ?_⟩) hHeld ?_ ?_
              rotate_left
              · rintro w' ⟨s0, s1, s2⟩
                go_simp
                with_reducible rfl
              rotate_left
              · simp only [Act.put, List.setIfInBounds_toArray, List.set_cons_zero, List.set_cons_succ, i64_w, i32_w]
                rfl
              refine take_ (i := 1) (N := some 55) (v := ?_) (a' := ?_) #[Y, Y, Yn, Yn, Yn, Y, Yn, Yn, Yn, Yn, Yn] rfl rfl (by kernel_rfl) (fun _ _ _ h => h) (Or.inl ⟨by rfl, ?_⟩) hHeld ?_ ?_
              rotate_left
              · rintro w' ⟨s0, s1, s2⟩
                go_simp
                with_reducible rfl
              rotate_left
              · simp only [Act.put, List.setIfInBounds_toArray, List.set_cons_zero, List.set_cons_succ, i64_w, i32_w]
                rfl
              refine pure_ (i := 2) (N := some 56) (v := ?_) (a' := ?_) #[Y, Y, Y, Yn, Yn, Y, Yn, Yn, Yn, Yn, Yn] rfl rfl (by kernel_rfl) (fun _ _ _ h => h) (Or.inl ⟨by rfl, ?_⟩) ?_ ?_
              rotate_left
              · intro w'
                go_simp
                with_reducible rfl
              rotate_left
              · simp only [Act.put, List.setIfInBounds_toArray, List.set_cons_zero, List.set_cons_succ, i64_w, i32_w]
                rfl
              refine pure_ (i := 3) (N := some 57) (v := ?_) (a' := ?_) #[Y, Y, Y, Y, Yn, Y, Yn, Yn, Yn, Yn, Yn] rfl rfl (by kernel_rfl) (fun _ _ _ h => h) (Or.inl ⟨by rfl, ?_⟩) ?_ ?_
              rotate_left
              · intro w'
                go_simp
                with_reducible rfl
              rotate_left
              · simp only [Act.put, List.setIfInBounds_toArray, List.set_cons_zero, List.set_cons_succ, i64_w, i32_w]
                rfl
              refine take_ (i := 4) (N := some 58) (v := ?_) (a' := ?_) #[Y, Y, Y, Y, Y, Y, Yn, Yn, Yn, Yn, Yn] rfl rfl (by kernel_rfl) (fun _ _ _ h => h) (Or.inl ⟨by rfl, ?_⟩) hHeld ?_ ?_
              rotate_left
              · rintro w' ⟨s0, s1, s2⟩
                go_simp
                with_reducible rfl
              rotate_left
              · simp only [Act.put, List.setIfInBounds_toArray, List.set_cons_zero, List.set_cons_succ, i64_w, i32_w]
                rfl
              refine take_ (i := 6) (N := some 60) (v := ?_) (a' := ?_) #[Y, Y, Y, Y, Y, Y, Y, Yn, Yn, Yn, Yn] rfl rfl (by kernel_rfl) (fun _ _ _ h => h) (Or.inl ⟨by rfl, ?_⟩) hHeld ?_ ?_
              rotate_left
              · rintro w' ⟨s0, s1, s2⟩
                go_simp
                with_reducible rfl
              rotate_left
              · simp only [Act.put, List.setIfInBounds_toArray, List.set_cons_zero, List.set_cons_succ, i64_w, i32_w]
                rfl
              refine one_ (i := 7) (N := some 61) #[Y, Y, Y, Y, Y, Y, Y, Y, Yn, Yn, Yn] rfl rfl (by kernel_rfl) (by decide) (fun K hK => ?_)
              refine step_append_str (w0 := w6) B (by rfl) (.tmp 58) (.tmp 60) 80 9 5 rfl Tryd.underlying80 Tryd.underlying9 info5 (.slice A5 msg.length k5') msg p5 rfl rfl HO6.out (Below.refl _ _) (Nat.le_trans HBS.out HK6.out.size) HLEN.out ?_
              intro v1 w7 ho hb hg
              obtain ⟨ms, HMS⟩ : ∃ ms, Aside0 (msg ++ bytesOf p5 = ms) := ⟨_, ⟨rfl⟩⟩
              rw [HMS.out] at ho
              obtain ⟨A7, k7, e7⟩ := Kd.R_slice ho
              subst e7
              have HS7 := Aside0.mk (rcv_step HG6.out HGE.out HO6.out ho hb hg)
              have BR7 := Aside0.mk (blk_grown BR6.out hg (Kd.R_ne HO6.out BR6.out (by decide)))
              have BP7 := Aside0.mk (blk_grown BP6.out hg (Kd.R_ne HO6.out BP6.out (by decide)))
              have HB7 := Aside0.mk (HB6.out.trans HS7.out.bel1)
              have HK7 := Aside0.mk (HK6.out.trans HS7.out.keep1)
              have f4 := blk_frozen HS7.out.blk 4
              have c4 := (blk_cell HS7.out.blk 4).trans rfl
              clear ho hb hg
              refine hK.out _ _ ⟨(blk_cell BR7.out 0).trans rfl, c4, (blk_cell BP7.out 5).trans rfl⟩ (fun hHeld => ?_)
              clear hK K
              refine norm_ (a' := ?_) ?_ ?_
              rotate_left
              · show Act.put _ (some 61) _ = _
                simp only [Act.put, List.setIfInBounds_toArray, List.set_cons_zero, List.set_cons_succ, i64_w, i32_w]
                rfl
              refine pure_ (i := 8) (N := some 62) (v := ?_) (a' := ?_) #[Y, Y, Y, Y, Y, Y, Y, Y, Y, Yn, Yn] rfl rfl (by kernel_rfl) (fun _ _ _ h => h) (Or.inl ⟨by rfl, ?_⟩) ?_ ?_
              rotate_left
              · intro w'
                go_simp
                with_reducible rfl
              rotate_left
              · simp only [Act.put, List.setIfInBounds_toArray, List.set_cons_zero, List.set_cons_succ, i64_w, i32_w]
                rfl
              refine pure_ (i := 9) (N := some 63) (v := ?_) (a' := ?_) #[Y, Y, Y, Y, Y, Y, Y, Y, Y, Y, Yn] rfl rfl (by kernel_rfl) (fun _ _ _ h => h) (Or.inl ⟨by rfl, ?_⟩) ?_ ?_
              rotate_left
              · intro w'
                go_simp
                with_reducible rfl
              rotate_left
              · simp only [Act.put, List.setIfInBounds_toArray, List.set_cons_zero, List.set_cons_succ, i64_w, i32_w]
                rfl
              refine last_ (i := 10) (N := none) #[Y, Y, Y, Y, Y, Y, Y, Y, Y, Y, Y] rfl rfl (by kernel_rfl) (by decide) (fun K hK => ?_)
              refine skip_ (w1 := ?_) (by rfl) rfl ?_ ?_
              rotate_left
              · go_simp
                rfl
              refine hK.out _ _ ?_
              clear hK K
              refine done_ (by kernel_rfl) ?_
              have HI8 := Aside0.mk HS7.out.at_
              have BR8 := Aside0.mk (blk_far BR7.out (p := ⟨g, 4, none⟩) HNR.out (.slice A7 ms.length k7))
              have BP8 := Aside0.mk (blk_far BP7.out (p := ⟨g, 4, none⟩) HNP.out (.slice A7 ms.length k7))
              have HB8 := Aside0.mk (HB7.out.setCell (p := ⟨g, 4, none⟩) HGE.out (.slice A7 ms.length k7))
              have HK8 := Aside0.mk (HK7.out.set 4 (.slice A7 ms.length k7))
              generalize w7.setCell ⟨g, 4, none⟩ (.slice A7 ms.length k7) = w8 at HI8 BR8 BP8 HB8 HK8 ⊢
              obtain ⟨v8, hG8, hge8, hO8⟩ := HI8.out
              have HG8 := Aside0.mk hG8
              clear hG8 hge8 hO8
              clear cr c4 y5 f4 hHeld
              have y3 := (blk_cell BP8.out 3).trans rfl
              have cr := (blk_cell BR8.out 0).trans rfl
              have c2 := (blk_cell HG8.out 2).trans rfl
              have f2 := blk_frozen HG8.out 2
              have y3b : p3 = false := K6.out
              have HI9 := Aside0.mk (HI8.out.set_state 1)
              have HG9 := Aside0.mk (blk_put HG8.out 2 (.int .i64 1) rfl)
              have BR9 := Aside0.mk (blk_far BR8.out (p := ⟨g, 2, none⟩) HNR.out (.int .i64 1))
              have BP9 := Aside0.mk (blk_far BP8.out (p := ⟨g, 2, none⟩) HNP.out (.int .i64 1))
              have HB9 := Aside0.mk (HB8.out.setCell (p := ⟨g, 2, none⟩) HGE.out (.int .i64 1))
              have HK9 := Aside0.mk (HK8.out.set 2 (.int .i64 1))
              go_wp2
              generalize w8.setCell ⟨g, 2, none⟩ (.int .i64 1) = w9 at HI9 HG9 BR9 BP9 HB9 HK9 ⊢
              clear y3 cr c2 f2
              have cr := (blk_cell BR9.out 0).trans rfl
              have c1 := (blk_cell HG9.out 1).trans rfl
              have HI10 := Aside0.mk HI9.out.drew
              have HG10 := Aside0.mk (blk_drew HG9.out)
              have BR10 := Aside0.mk (blk_drew BR9.out)
              have BP10 := Aside0.mk (blk_drew BP9.out)
              have HB10 := Aside0.mk HB9.out.drew
              have HK10 := Aside0.mk HK9.out.drew
              refine start_ (n := 10) (S := fun w' => w'.cell? ⟨gr, 0, none⟩ = some (.pointer (some ⟨g, 0, none⟩)) ∧ w'.cell? ⟨g, 1, none⟩ = some (.int .i64 timeout)) (ds := [9]) #[Yn, Yn, Yn, Yn, Yn, Yn, Yn, Yn, Yn, Yn] (by kernel_rfl) rfl rfl ⟨cr, c1⟩ (fun hHeld => ?_)
              generalize w9.drew = w10 at HI10 HG10 BR10 BP10 HB10 HK10 hHeld ⊢
              refine pure_ (i := 1) (N := some 71) (v := ?_) (a' := ?_) #[Yn, Y, Yn, Yn, Yn, Yn, Yn, Yn, Yn, Yn] rfl rfl (by kernel_rfl) (fun _ _ _ h => h) (Or.inl ⟨by rfl, ?_⟩) ?_ ?_
              rotate_left
              · intro w'
                go_simp
                with_reducible rfl
              rotate_left
              · simp only [Act.put, List.setIfInBounds_toArray, List.set_cons_zero, List.set_cons_succ, i64_w, i32_w]
                rfl
              refine take_ (i := 0) (N := some 70) (v := ?_) (a' := ?_) #[Y, Y, Yn, Yn, Yn, Yn, Yn, Yn, Yn, Yn] rfl rfl (by kernel_rfl) (fun _ _ _ h => h) (Or.inl ⟨by rfl, ?_⟩) hHeld ?_ ?_
              rotate_left
              · rintro w' ⟨s0, s1⟩
                go_simp
                with_reducible rfl
              rotate_left
              · simp only [Act.put, List.setIfInBounds_toArray, List.set_cons_zero, List.set_cons_succ, i64_w, i32_w]
                rfl
              refine take_ (i := 2) (N := some 72) (v := ?_) (a' := ?_) #[Y, Y, Y, Yn, Yn, Yn, Yn, Yn, Yn, Yn] rfl rfl (by kernel_rfl) (fun _ _ _ h => h) (Or.inl ⟨by rfl, ?_⟩) hHeld ?_ ?_
              rotate_left
              · rintro w' ⟨s0, s1⟩
                go_simp
                with_reducible rfl
              rotate_left
              · simp only [Act.put, List.setIfInBounds_toArray, List.set_cons_zero, List.set_cons_succ, i64_w, i32_w]
                rfl
              refine pure_ (i := 3) (N := some 73) (v := ?_) (a' := ?_) #[Y, Y, Y, Y, Yn, Yn, Yn, Yn, Yn, Yn] rfl rfl (by kernel_rfl) (fun _ _ _ h => h) (Or.inl ⟨by rfl, ?_⟩) ?_ ?_
              rotate_left
              · intro w'
                go_simp
                with_reducible rfl
              rotate_left
              · simp only [Act.put, List.setIfInBounds_toArray, List.set_cons_zero, List.set_cons_succ, i64_w, i32_w]
                rfl
              refine pure_ (i := 4) (N := some 74) (v := ?_) (a' := ?_) #[Y, Y, Y, Y, Y, Yn, Yn, Yn, Yn, Yn] rfl rfl (by kernel_rfl) (fun _ _ _ h => h) (Or.inl ⟨by rfl, ?_⟩) ?_ ?_
              rotate_left
              · intro w'
                go_simp
                with_reducible rfl
              rotate_left
              · simp only [Act.put, List.setIfInBounds_toArray, List.set_cons_zero, List.set_cons_succ, i64_w, i32_w]
                rfl
              refine take_ (i := 5) (N := some 75) (v := ?_) (a' := ?_) #[Y, Y, Y, Y, Y, Y, Yn, Yn, Yn, Yn] rfl rfl (by kernel_rfl) (fun _ _ _ h => h) (Or.inl ⟨by rfl, ?_⟩) hHeld ?_ ?_
              rotate_left
              · rintro w' ⟨s0, s1⟩
                go_simp
                with_reducible rfl
              rotate_left
              · simp only [Act.put, List.setIfInBounds_toArray, List.set_cons_zero, List.set_cons_succ, i64_w, i32_w]
                rfl
              refine pure_ (i := 6) (N := some 76) (v := ?_) (a' := ?_) #[Y, Y, Y, Y, Y, Y, Y, Yn, Yn, Yn] rfl rfl (by kernel_rfl) (fun _ _ _ h => h) (Or.inl ⟨by rfl, ?_⟩) ?_ ?_
              rotate_left
              · intro w'
                go_simp
                with_reducible rfl
              rotate_left
              · simp only [Act.put, List.setIfInBounds_toArray, List.set_cons_zero, List.set_cons_succ, i64_w, i32_w]
                rfl
              refine pure_ (i := 7) (N := some 77) (v := ?_) (a' := ?_) #[Y, Y, Y, Y, Y, Y, Y, Y, Yn, Yn] rfl rfl (by kernel_rfl) (fun _ _ _ h => h) (Or.inl ⟨by rfl, ?_⟩) ?_ ?_
              rotate_left
              · intro w'
                go_simp
                with_reducible rfl
              rotate_left
              · simp only [Act.put, List.setIfInBounds_toArray, List.set_cons_zero, List.set_cons_succ, i64_w, i32_w]
                rfl
              refine pure_ (i := 8) (N := some 78) (v := ?_) (a' := ?_) #[Y, Y, Y, Y, Y, Y, Y, Y, Y, Yn] rfl rfl (by kernel_rfl) (fun _ _ _ h => h) (Or.inl ⟨by rfl, ?_⟩) ?_ ?_
              rotate_left
              · intro w'
                go_simp
                with_reducible rfl
              rotate_left
              · simp only [Act.put, List.setIfInBounds_toArray, List.set_cons_zero, List.set_cons_succ, i64_w, i32_w]
                rfl
              refine last_ (i := 9) (N := none) #[Y, Y, Y, Y, Y, Y, Y, Y, Y, Y] rfl rfl (by kernel_rfl) (by decide) (fun K hK => ?_)
              have f5 := blk_frozen HG10.out 5
              have c5 := (blk_cell HG10.out 5).trans rfl
              refine skip_ (w1 := ?_) (by rfl) rfl ?_ ?_
              rotate_left
              · go_simp
                rfl
              refine hK.out _ _ ?_
              clear hK K
              refine done_ (by kernel_rfl) ?_
              have HI11 := Aside0.mk (HI10.out.set_deadline (wrap64 (now + timeout)))
              have HG11 := Aside0.mk (blk_put HG10.out 5 (.int .i64 (wrap64 (now + timeout))) rfl)
              have BR11 := Aside0.mk (blk_far BR10.out (p := ⟨g, 5, none⟩) HNR.out (.int .i64 (wrap64 (now + timeout))))
              have BP11 := Aside0.mk (blk_far BP10.out (p := ⟨g, 5, none⟩) HNP.out (.int .i64 (wrap64 (now + timeout))))
              have HB11 := Aside0.mk (HB10.out.setCell (p := ⟨g, 5, none⟩) HGE.out (.int .i64 (wrap64 (now + timeout))))
              have HK11 := Aside0.mk (HK10.out.set 5 (.int .i64 (wrap64 (now + timeout))))
              generalize w10.setCell ⟨g, 5, none⟩ (.int .i64 (wrap64 (now + timeout))) = w11 at HI11 HG11 BR11 BP11 HB11 HK11 ⊢
              clear cr c1 f5 c5 hHeld
              have cr := (blk_cell BR11.out 0).trans rfl
              have c0 := (blk_cell HG11.out 0).trans rfl
              have c3 := (blk_cell HG11.out 3).trans rfl
              go_wp2
              have HI12 := Aside0.mk HI11.out.drew
              have HG12 := Aside0.mk (blk_drew HG11.out)
              have BR12 := Aside0.mk (blk_drew BR11.out)
              have BP12 := Aside0.mk (blk_drew BP11.out)
              have HB12 := Aside0.mk HB11.out.drew
              have HK12 := Aside0.mk HK11.out.drew
              refine start_ (n := 12) (S := fun w' => w'.cell? ⟨gr, 0, none⟩ = some (.pointer (some ⟨g, 0, none⟩)) ∧ w'.cell? ⟨g, 0, none⟩ = some (.int .i64 id) ∧ w'.cell? ⟨g, 3, none⟩ = some (.int .i64 (wrap64 (count + 1)))) (ds := []) #[Yn, Yn, Yn, Yn, Yn, Yn, Yn, Yn, Yn, Yn, Yn, Yn] (by kernel_rfl) rfl rfl ⟨cr, c0, c3⟩ (fun hHeld => ?_)
              generalize w11.drew = w12 at HI12 HG12 BR12 BP12 HB12 HK12 hHeld ⊢
              refine take_ (i := 0) (N := some 2) (v := ?_) (a' := ?_) #[Y, Yn, Yn, Yn, Yn, Yn, Yn, Yn, Yn, Yn, Yn, Yn] rfl rfl (by kernel_rfl) (fun _ _ _ h => h) (Or.inl ⟨by rfl, ?_⟩) hHeld ?_ ?_
              rotate_left
              · rintro w' ⟨s0, s1, s2⟩
                go_simp
                with_reducible rfl
              rotate_left
              · simp only [Act.put, List.setIfInBounds_toArray, List.set_cons_zero, List.set_cons_succ, i64_w, i32_w]
                rfl
              refine pure_ (i := 1) (N := some 3) (v := ?_) (a' := ?_) #[Y, Y, Yn, Yn, Yn, Yn, Yn, Yn, Yn, Yn, Yn, Yn] rfl rfl (by kernel_rfl) (fun _ _ _ h => h) (Or.inl ⟨by rfl, ?_⟩) ?_ ?_
              rotate_left
              · intro w'
                go_simp
                with_reducible rfl
              rotate_left
              · simp only [Act.put, List.setIfInBounds_toArray, List.set_cons_zero, List.set_cons_succ, i64_w, i32_w]
                rfl
              refine pure_ (i := 2) (N := some 4) (v := ?_) (a' := ?_) #[Y, Y, Y, Yn, Yn, Yn, Yn, Yn, Yn, Yn, Yn, Yn] rfl rfl (by kernel_rfl) (fun _ _ _ h => h) (Or.inl ⟨by rfl, ?_⟩) ?_ ?_
              rotate_left
              · intro w'
                go_simp
                with_reducible rfl
              rotate_left
              · simp only [Act.put, List.setIfInBounds_toArray, List.set_cons_zero, List.set_cons_succ, i64_w, i32_w]
                rfl
              refine take_ (i := 3) (N := some 5) (v := ?_) (a' := ?_) #[Y, Y, Y, Y, Yn, Yn, Yn, Yn, Yn, Yn, Yn, Yn] rfl rfl (by kernel_rfl) (fun _ _ _ h => h) (Or.inl ⟨by rfl, ?_⟩) hHeld ?_ ?_
              rotate_left
              · rintro w' ⟨s0, s1, s2⟩
                go_simp
                with_reducible rfl
              rotate_left
              · simp only [Act.put, List.setIfInBounds_toArray, List.set_cons_zero, List.set_cons_succ, i64_w, i32_w]
                rfl
              refine take_ (i := 4) (N := some 6) (v := ?_) (a' := ?_) #[Y, Y, Y, Y, Y, Yn, Yn, Yn, Yn, Yn, Yn, Yn] rfl rfl (by kernel_rfl) (fun _ _ _ h => h) (Or.inl ⟨by rfl, ?_⟩) hHeld ?_ ?_
              rotate_left
              · rintro w' ⟨s0, s1, s2⟩
                go_simp
                with_reducible rfl
              rotate_left
              · simp only [Act.put, List.setIfInBounds_toArray, List.set_cons_zero, List.set_cons_succ, i64_w, i32_w]
                rfl
              refine pure_ (i := 5) (N := some 7) (v := ?_) (a' := ?_) #[Y, Y, Y, Y, Y, Y, Yn, Yn, Yn, Yn, Yn, Yn] rfl rfl (by kernel_rfl) (fun _ _ _ h => h) (Or.inl ⟨by rfl, ?_⟩) ?_ ?_
              rotate_left
              · intro w'
                go_simp
                with_reducible rfl
              rotate_left
              · simp only [Act.put, List.setIfInBounds_toArray, List.set_cons_zero, List.set_cons_succ, i64_w, i32_w]
                rfl
              refine pure_ (i := 6) (N := some 8) (v := ?_) (a' := ?_) #[Y, Y, Y, Y, Y, Y, Y, Yn, Yn, Yn, Yn, Yn] rfl rfl (by kernel_rfl) (fun _ _ _ h => h) (Or.inl ⟨by rfl, ?_⟩) ?_ ?_
              rotate_left
              · intro w'
                go_simp
                with_reducible rfl
              rotate_left
              · simp only [Act.put, List.setIfInBounds_toArray, List.set_cons_zero, List.set_cons_succ, i64_w, i32_w]
                rfl
              refine take_ (i := 7) (N := some 9) (v := ?_) (a' := ?_) #[Y, Y, Y, Y, Y, Y, Y, Y, Yn, Yn, Yn, Yn] rfl rfl (by kernel_rfl) (fun _ _ _ h => h) (Or.inl ⟨by rfl, ?_⟩) hHeld ?_ ?_
              rotate_left
              · rintro w' ⟨s0, s1, s2⟩
                go_simp
                with_reducible rfl
              rotate_left
              · simp only [Act.put, List.setIfInBounds_toArray, List.set_cons_zero, List.set_cons_succ, i64_w, i32_w]
                rfl
              refine pure_ (i := 8) (N := some 10) (v := ?_) (a' := ?_) #[Y, Y, Y, Y, Y, Y, Y, Y, Y, Yn, Yn, Yn] rfl rfl (by kernel_rfl) (fun _ _ _ h => h) (Or.inl ⟨by rfl, ?_⟩) ?_ ?_
              rotate_left
              · intro w'
                go_simp
                with_reducible rfl
              rotate_left
              · simp only [Act.put, List.setIfInBounds_toArray, List.set_cons_zero, List.set_cons_succ, i64_w, i32_w]
                rfl
              refine pure_ (i := 9) (N := some 11) (v := ?_) (a' := ?_) #[Y, Y, Y, Y, Y, Y, Y, Y, Y, Y, Yn, Yn] rfl rfl (by kernel_rfl) (fun _ _ _ h => h) (Or.inl ⟨by rfl, ?_⟩) ?_ ?_
              rotate_left
              · intro w'
                go_simp
                with_reducible rfl
              rotate_left
              · simp only [Act.put, List.setIfInBounds_toArray, List.set_cons_zero, List.set_cons_succ, i64_w, i32_w]
                rfl
              refine one_ (i := 10) (N := some 12) #[Y, Y, Y, Y, Y, Y, Y, Y, Y, Y, Y, Yn] rfl rfl (by kernel_rfl) (by decide) (fun K hK => ?_)
              refine value_ (w1 := ?_) (v := ?_) (by rfl) rfl ?_ ?_
              rotate_left 2
              · go_simp
                constructor
                · rfl
                · rfl
              refine hK.out _ _ ⟨(blk_cell (by (with_reducible repeat (first | refine blk_drewN ?_ _ | refine blk_drew ?_ | refine blk_alloc ?_ _)); exact BR12.out) 0).trans rfl, (blk_cell (by (with_reducible repeat (first | refine blk_drewN ?_ _ | refine blk_drew ?_ | refine blk_alloc ?_ _)); exact HG12.out) 0).trans rfl, (blk_cell (by (with_reducible repeat (first | refine blk_drewN ?_ _ | refine blk_drew ?_ | refine blk_alloc ?_ _)); exact HG12.out) 3).trans rfl⟩ (fun hHeld => ?_)
              clear hK K
              refine norm_ (a' := ?_) ?_ ?_
              rotate_left
              · show Act.put _ (some 12) _ = _
                simp only [Act.put, List.setIfInBounds_toArray, List.set_cons_zero, List.set_cons_succ, i64_w, i32_w]
                rfl
              refine pure_ (i := 11) (N := some 1) (v := ?_) (a' := ?_) #[Y, Y, Y, Y, Y, Y, Y, Y, Y, Y, Y, Y] rfl rfl (by kernel_rfl) (fun _ _ _ h => h) (Or.inl ⟨by rfl, ?_⟩) ?_ ?_
              rotate_left
              · intro w'
                go_simp
                with_reducible rfl
              rotate_left
              · simp only [Act.put, List.setIfInBounds_toArray, List.set_cons_zero, List.set_cons_succ, i64_w, i32_w]
                rfl
              refine done_ (by kernel_rfl) ?_
              go_wp2
              go_ret
              exact ⟨_, rfl, V_one23 (Rn.ack ⟨id, timeout, 1, (wrap64 (count + 1)), ms, wrap64 (now + timeout)⟩) _ rfl HK12.out.size, (by first | exact HI12.out.alloc _ | (rw [HMS.out]; exact HI12.out.alloc _)), HB12.out.alloc (Nat.le_trans HBS.out HK12.out.size) _, HK12.out.alloc _⟩
          · have k5b : (p2 == count) = false := beq_false_of_ne k5
            have HT := Aside0.mk (show Rn.handle ⟨id, timeout, state, count, msg, deadline⟩ p0 p1 p2 p3 p5 now = ([Rn.ack ⟨id, timeout, state, count, msg, wrap64 (now + timeout)⟩], ⟨id, timeout, state, count, msg, wrap64 (now + timeout)⟩) by unfold Rn.handle; rw [if_pos k1, if_pos k2, if_neg k3, if_pos k4, show Rn.take ⟨id, timeout, state, count, msg, deadline⟩ p2 p3 p5 = ⟨id, timeout, state, count, msg, deadline⟩ from by unfold Rn.take; exact if_neg k5]; try rfl)
            rw [HT.out]
            clear k1 k2 k3 k4 k5
            go_enter Tryd.func34, Tryd.ntmps34
            go_wp2_with (first | ((with_reducible refine gate_dst (N := 3) rfl ?_); refine box_event ?hg (N := 3) ?hd (cs := #[.pointer (some ⟨g, 0, none⟩)]) (t := 64) ?hr ?_; (case hd => rfl); (case hg => rfl); (case hr => first | (go_simp; done) | (go_simp; rfl)); intro gr hgr w1 hbox hb; have BRa := Aside0.mk hbox; have HIa := Aside0.mk (HI.out.below hb); have HGa := Aside0.mk (blk_below HG.out hb); have HBa := Aside0.mk (hb.mono HBS.out); have HKa := Aside0.mk (KeepR.of_below hb g); clear hb hbox hgr) | ((with_reducible refine gate_dst (N := 4) rfl ?_); refine box_event ?hg (N := 4) ?hd (cs := #[.int .i64 p0, .int .i64 p1, .int .i64 p2, .bool p3, .int .i64 p4, .string p5]) (t := 23) ?hr ?_; (case hd => rfl); (case hg => rfl); (case hr => first | (go_simp; done) | (go_simp; rfl)); intro gp hgp w2 hbox hb; have BP2 := Aside0.mk hbox; have BR2 := Aside0.mk (blk_below BRa.out hb); have HI2 := Aside0.mk (HIa.out.below hb); have HG2 := Aside0.mk (blk_below HGa.out hb); have HB2 := Aside0.mk (HBa.out.trans (hb.mono (Nat.le_trans HBS.out HKa.out.size))); have HK2 := Aside0.mk (HKa.out.trans (KeepR.of_below hb g)); have HNR := Aside0.mk (blk_ne BR2.out HG2.out (by decide)); have HNP := Aside0.mk (blk_ne BP2.out HG2.out (by decide)); have cr := (blk_cell BR2.out 0).trans rfl; have c0 := (blk_cell HG2.out 0).trans rfl; have y1 := (blk_cell BP2.out 1).trans rfl; clear hb hbox hgp BRa HIa HGa HBa HKa))
            have HI3 := Aside0.mk HI2.out.drew
            have HG3 := Aside0.mk (blk_drew HG2.out)
            have BR3 := Aside0.mk (blk_drew BR2.out)
            have BP3 := Aside0.mk (blk_drew BP2.out)
            have HB3 := Aside0.mk HB2.out.drew
            have HK3 := Aside0.mk HK2.out.drew
            refine start_ (n := 7) (S := fun w' => w'.cell? ⟨gp, 1, none⟩ = some (.int .i64 p1) ∧ w'.cell? ⟨gr, 0, none⟩ = some (.pointer (some ⟨g, 0, none⟩)) ∧ w'.cell? ⟨g, 0, none⟩ = some (.int .i64 id)) (ds := []) #[Yn, Yn, Yn, Yn, Yn, Yn, Yn] (by kernel_rfl) rfl rfl ⟨y1, cr, c0⟩ (fun hHeld => ?_)
            generalize w2.drew = w3 at HI3 HG3 BR3 BP3 HB3 HK3 hHeld ⊢
            refine pure_ (i := 0) (N := some 8) (v := ?_) (a' := ?_) #[Y, Yn, Yn, Yn, Yn, Yn, Yn] rfl rfl (by kernel_rfl) (fun _ _ _ h => h) (Or.inl ⟨by rfl, ?_⟩) ?_ ?_
            rotate_left
            · intro w'
              go_simp
              with_reducible rfl
            rotate_left
            · simp only [Act.put, List.setIfInBounds_toArray, List.set_cons_zero, List.set_cons_succ, i64_w, i32_w]
              rfl
            refine take_ (i := 1) (N := some 9) (v := ?_) (a' := ?_) #[Y, Y, Yn, Yn, Yn, Yn, Yn] rfl rfl (by kernel_rfl) (fun _ _ _ h => h) (Or.inl ⟨by rfl, ?_⟩) hHeld ?_ ?_
            rotate_left
            · rintro w' ⟨s0, s1, s2⟩
              go_simp
              with_reducible rfl
            rotate_left
            · simp only [Act.put, List.setIfInBounds_toArray, List.set_cons_zero, List.set_cons_succ, i64_w, i32_w]
              rfl
            refine take_ (i := 2) (N := some 10) (v := ?_) (a' := ?_) #[Y, Y, Y, Yn, Yn, Yn, Yn] rfl rfl (by kernel_rfl) (fun _ _ _ h => h) (Or.inl ⟨by rfl, ?_⟩) hHeld ?_ ?_
            rotate_left
            · rintro w' ⟨s0, s1, s2⟩
              go_simp
              with_reducible rfl
            rotate_left
            · simp only [Act.put, List.setIfInBounds_toArray, List.set_cons_zero, List.set_cons_succ, i64_w, i32_w]
              rfl
            refine pure_ (i := 3) (N := some 11) (v := ?_) (a' := ?_) #[Y, Y, Y, Y, Yn, Yn, Yn] rfl rfl (by kernel_rfl) (fun _ _ _ h => h) (Or.inl ⟨by rfl, ?_⟩) ?_ ?_
            rotate_left
            · intro w'
              go_simp
              with_reducible rfl
            rotate_left
            · simp only [Act.put, List.setIfInBounds_toArray, List.set_cons_zero, List.set_cons_succ, i64_w, i32_w]
              rfl
            refine pure_ (i := 4) (N := some 12) (v := ?_) (a' := ?_) #[Y, Y, Y, Y, Y, Yn, Yn] rfl rfl (by kernel_rfl) (fun _ _ _ h => h) (Or.inl ⟨by rfl, ?_⟩) ?_ ?_
            rotate_left
            · intro w'
              go_simp
              with_reducible rfl
            rotate_left
            · simp only [Act.put, List.setIfInBounds_toArray, List.set_cons_zero, List.set_cons_succ, i64_w, i32_w]
              rfl
            refine take_ (i := 5) (N := some 13) (v := ?_) (a' := ?_) #[Y, Y, Y, Y, Y, Y, Yn] rfl rfl (by kernel_rfl) (fun _ _ _ h => h) (Or.inl ⟨by rfl, ?_⟩) hHeld ?_ ?_
            rotate_left
            · rintro w' ⟨s0, s1, s2⟩
              go_simp
              with_reducible rfl
            rotate_left
            · simp only [Act.put, List.setIfInBounds_toArray, List.set_cons_zero, List.set_cons_succ, i64_w, i32_w]
              rfl
            refine pure_ (i := 6) (N := some 14) (v := ?_) (a' := ?_) #[Y, Y, Y, Y, Y, Y, Y] rfl rfl (by kernel_rfl) (fun _ _ _ h => h) (Or.inl ⟨by rfl, ?_⟩) ?_ ?_
            rotate_left
            · intro w'
              go_simp
              with_reducible rfl
            rotate_left
            · simp only [Act.put, List.setIfInBounds_toArray, List.set_cons_zero, List.set_cons_succ, i64_w, i32_w]
              rfl
            refine done_ (by kernel_rfl) ?_
            clear cr c0 y1 hHeld
            have cr := (blk_cell BR3.out 0).trans rfl
            have y0 := (blk_cell BP3.out 0).trans rfl
            have c2 := (blk_cell HG3.out 2).trans rfl
            have y2 := (blk_cell BP3.out 2).trans rfl
            have c3 := (blk_cell HG3.out 3).trans rfl
            go_wp2
            have HI4 := Aside0.mk HI3.out.drew
            have HG4 := Aside0.mk (blk_drew HG3.out)
            have BR4 := Aside0.mk (blk_drew BR3.out)
            have BP4 := Aside0.mk (blk_drew BP3.out)
            have HB4 := Aside0.mk HB3.out.drew
            have HK4 := Aside0.mk HK3.out.drew
            refine start_ (n := 7) (S := fun w' => w'.cell? ⟨gp, 2, none⟩ = some (.int .i64 p2) ∧ w'.cell? ⟨gr, 0, none⟩ = some (.pointer (some ⟨g, 0, none⟩)) ∧ w'.cell? ⟨g, 3, none⟩ = some (.int .i64 count)) (ds := []) #[Yn, Yn, Yn, Yn, Yn, Yn, Yn] (by kernel_rfl) rfl rfl ⟨y2, cr, c3⟩ (fun hHeld => ?_)
            generalize w3.drew = w4 at HI4 HG4 BR4 BP4 HB4 HK4 hHeld ⊢
            refine pure_ (i := 0) (N := some 40) (v := ?_) (a' := ?_) #[Y, Yn, Yn, Yn, Yn, Yn, Yn] rfl rfl (by kernel_rfl) (fun _ _ _ h => h) (Or.inl ⟨by rfl, ?_⟩) ?_ ?_
            rotate_left
            · intro w'
              go_simp
              with_reducible rfl
            rotate_left
            · simp only [Act.put, List.setIfInBounds_toArray, List.set_cons_zero, List.set_cons_succ, i64_w, i32_w]
              rfl
            refine take_ (i := 1) (N := some 41) (v := ?_) (a' := ?_) #[Y, Y, Yn, Yn, Yn, Yn, Yn] rfl rfl (by kernel_rfl) (fun _ _ _ h => h) (Or.inl ⟨by rfl, ?_⟩) hHeld ?_ ?_
            rotate_left
            · rintro w' ⟨s0, s1, s2⟩
              go_simp
              with_reducible rfl
            rotate_left
            · simp only [Act.put, List.setIfInBounds_toArray, List.set_cons_zero, List.set_cons_succ, i64_w, i32_w]
              rfl
            refine take_ (i := 2) (N := some 42) (v := ?_) (a' := ?_) #[Y, Y, Y, Yn, Yn, Yn, Yn] rfl rfl (by kernel_rfl) (fun _ _ _ h => h) (Or.inl ⟨by rfl, ?_⟩) hHeld ?_ ?_
            rotate_left
            · rintro w' ⟨s0, s1, s2⟩
              go_simp
              with_reducible rfl
            rotate_left
            · simp only [Act.put, List.setIfInBounds_toArray, List.set_cons_zero, List.set_cons_succ, i64_w, i32_w]
              rfl
            refine pure_ (i := 3) (N := some 43) (v := ?_) (a' := ?_) #[Y, Y, Y, Y, Yn, Yn, Yn] rfl rfl (by kernel_rfl) (fun _ _ _ h => h) (Or.inl ⟨by rfl, ?_⟩) ?_ ?_
            rotate_left
            · intro w'
              go_simp
              with_reducible rfl
            rotate_left
            · simp only [Act.put, List.setIfInBounds_toArray, List.set_cons_zero, List.set_cons_succ, i64_w, i32_w]
              rfl
            refine pure_ (i := 4) (N := some 44) (v := ?_) (a' := ?_) #[Y, Y, Y, Y, Y, Yn, Yn] rfl rfl (by kernel_rfl) (fun _ _ _ h => h) (Or.inl ⟨by rfl, ?_⟩) ?_ ?_
            rotate_left
            · intro w'
              go_simp
              with_reducible rfl
            rotate_left
            · simp only [Act.put, List.setIfInBounds_toArray, List.set_cons_zero, List.set_cons_succ, i64_w, i32_w]
              rfl
            refine take_ (i := 5) (N := some 45) (v := ?_) (a' := ?_) #[Y, Y, Y, Y, Y, Y, Yn] rfl rfl (by kernel_rfl) (fun _ _ _ h => h) (Or.inl ⟨by rfl, ?_⟩) hHeld ?_ ?_
            rotate_left
            · rintro w' ⟨s0, s1, s2⟩
              go_simp
              with_reducible rfl
            rotate_left
            · simp only [Act.put, List.setIfInBounds_toArray, List.set_cons_zero, List.set_cons_succ, i64_w, i32_w]
              rfl
            refine pure_ (i := 6) (N := some 46) (v := ?_) (a' := ?_) #[Y, Y, Y, Y, Y, Y, Y] rfl rfl (by kernel_rfl) (fun _ _ _ h => h) (Or.inl ⟨by rfl, ?_⟩) ?_ ?_
            rotate_left
            · intro w'
              go_simp
              with_reducible rfl
            rotate_left
            · simp only [Act.put, List.setIfInBounds_toArray, List.set_cons_zero, List.set_cons_succ, i64_w, i32_w]
              rfl
            refine done_ (by kernel_rfl) ?_
            clear cr y0 c2 y2 c3 hHeld
            have cr := (blk_cell BR4.out 0).trans rfl
            have c1 := (blk_cell HG4.out 1).trans rfl
            go_wp2
            have HI5 := Aside0.mk HI4.out.drew
            have HG5 := Aside0.mk (blk_drew HG4.out)
            have BR5 := Aside0.mk (blk_drew BR4.out)
            have BP5 := Aside0.mk (blk_drew BP4.out)
            have HB5 := Aside0.mk HB4.out.drew
            have HK5 := Aside0.mk HK4.out.drew
            refine start_ (n := 10) (S := fun w' => w'.cell? ⟨gr, 0, none⟩ = some (.pointer (some ⟨g, 0, none⟩)) ∧ w'.cell? ⟨g, 1, none⟩ = some (.int .i64 timeout)) (ds := [9]) #[Yn, Yn, Yn, Yn, Yn, Yn, Yn, Yn, Yn, Yn] (by kernel_rfl) rfl rfl ⟨cr, c1⟩ (fun hHeld => ?_)
            generalize w4.drew = w5 at HI5 HG5 BR5 BP5 HB5 HK5 hHeld ⊢
            refine pure_ (i := 1) (N := some 71) (v := ?_) (a' := ?_) #[Yn, Y, Yn, Yn, Yn, Yn, Yn, Yn, Yn, Yn] rfl rfl (by kernel_rfl) (fun _ _ _ h => h) (Or.inl ⟨by rfl, ?_⟩) ?_ ?_
            rotate_left
            · intro w'
              go_simp
              with_reducible rfl
            rotate_left
            · simp only [Act.put, List.setIfInBounds_toArray, List.set_cons_zero, List.set_cons_succ, i64_w, i32_w]
              rfl
            refine take_ (i := 0) (N := some 70) (v := ?_) (a' := ?_) #[Y, Y, Yn, Yn, Yn, Yn, Yn, Yn, Yn, Yn] rfl rfl (by kernel_rfl) (fun _ _ _ h => h) (Or.inl ⟨by rfl, ?_⟩) hHeld ?_ ?_
            rotate_left
            · rintro w' ⟨s0, s1⟩
              go_simp
              with_reducible rfl
            rotate_left
            · simp only [Act.put, List.setIfInBounds_toArray, List.set_cons_zero, List.set_cons_succ, i64_w, i32_w]
              rfl
            refine take_ (i := 2) (N := some 72) (v := ?_) (a' := ?_) #[Y, Y, Y, Yn, Yn, Yn, Yn, Yn, Yn, Yn] rfl rfl (by kernel_rfl) (fun _ _ _ h => h) (Or.inl ⟨by rfl, ?_⟩) hHeld ?_ ?_
            rotate_left
            · rintro w' ⟨s0, s1⟩
              go_simp
              with_reducible rfl
            rotate_left
            · simp only [Act.put, List.setIfInBounds_toArray, List.set_cons_zero, List.set_cons_succ, i64_w, i32_w]
              rfl
            refine pure_ (i := 3) (N := some 73) (v := ?_) (a' := ?_) #[Y, Y, Y, Y, Yn, Yn, Yn, Yn, Yn, Yn] rfl rfl (by kernel_rfl) (fun _ _ _ h => h) (Or.inl ⟨by rfl, ?_⟩) ?_ ?_
            rotate_left
            · intro w'
              go_simp
              with_reducible rfl
            rotate_left
            · simp only [Act.put, List.setIfInBounds_toArray, List.set_cons_zero, List.set_cons_succ, i64_w, i32_w]
              rfl
            refine pure_ (i := 4) (N := some 74) (v := ?_) (a' := ?_) #[Y, Y, Y, Y, Y, Yn, Yn, Yn, Yn, Yn] rfl rfl (by kernel_rfl) (fun _ _ _ h => h) (Or.inl ⟨by rfl, ?_⟩) ?_ ?_
            rotate_left
            · intro w'
              go_simp
              with_reducible rfl
            rotate_left
            · simp only [Act.put, List.setIfInBounds_toArray, List.set_cons_zero, List.set_cons_succ, i64_w, i32_w]
              rfl
            refine take_ (i := 5) (N := some 75) (v := ?_) (a' := ?_) #[Y, Y, Y, Y, Y, Y, Yn, Yn, Yn, Yn] rfl rfl (by kernel_rfl) (fun _ _ _ h => h) (Or.inl ⟨by rfl, ?_⟩) hHeld ?_ ?_
            rotate_left
            · rintro w' ⟨s0, s1⟩
              go_simp
              with_reducible rfl
            rotate_left
            · simp only [Act.put, List.setIfInBounds_toArray, List.set_cons_zero, List.set_cons_succ, i64_w, i32_w]
              rfl
            refine pure_ (i := 6) (N := some 76) (v := ?_) (a' := ?_) #[Y, Y, Y, Y, Y, Y, Y, Yn, Yn, Yn] rfl rfl (by kernel_rfl) (fun _ _ _ h => h) (Or.inl ⟨by rfl, ?_⟩) ?_ ?_
            rotate_left
            · intro w'
              go_simp
              with_reducible rfl
            rotate_left
            · simp only [Act.put, List.setIfInBounds_toArray, List.set_cons_zero, List.set_cons_succ, i64_w, i32_w]
              rfl
            refine pure_ (i := 7) (N := some 77) (v := ?_) (a' := ?_) #[Y, Y, Y, Y, Y, Y, Y, Y, Yn, Yn] rfl rfl (by kernel_rfl) (fun _ _ _ h => h) (Or.inl ⟨by rfl, ?_⟩) ?_ ?_
            rotate_left
            · intro w'
              go_simp
              with_reducible rfl
            rotate_left
            · simp only [Act.put, List.setIfInBounds_toArray, List.set_cons_zero, List.set_cons_succ, i64_w, i32_w]
              rfl
            refine pure_ (i := 8) (N := some 78) (v := ?_) (a' := ?_) #[Y, Y, Y, Y, Y, Y, Y, Y, Y, Yn] rfl rfl (by kernel_rfl) (fun _ _ _ h => h) (Or.inl ⟨by rfl, ?_⟩) ?_ ?_
            rotate_left
            · intro w'
              go_simp
              with_reducible rfl
            rotate_left
            · simp only [Act.put, List.setIfInBounds_toArray, List.set_cons_zero, List.set_cons_succ, i64_w, i32_w]
              rfl
            refine last_ (i := 9) (N := none) #[Y, Y, Y, Y, Y, Y, Y, Y, Y, Y] rfl rfl (by kernel_rfl) (by decide) (fun K hK => ?_)
            have f5 := blk_frozen HG5.out 5
            have c5 := (blk_cell HG5.out 5).trans rfl
            refine skip_ (w1 := ?_) (by rfl) rfl ?_ ?_
            rotate_left
            · go_simp
              rfl
            refine hK.out _ _ ?_
            clear hK K
            refine done_ (by kernel_rfl) ?_
            have HI6 := Aside0.mk (HI5.out.set_deadline (wrap64 (now + timeout)))
            have HG6 := Aside0.mk (blk_put HG5.out 5 (.int .i64 (wrap64 (now + timeout))) rfl)
            have BR6 := Aside0.mk (blk_far BR5.out (p := ⟨g, 5, none⟩) HNR.out (.int .i64 (wrap64 (now + timeout))))
            have BP6 := Aside0.mk (blk_far BP5.out (p := ⟨g, 5, none⟩) HNP.out (.int .i64 (wrap64 (now + timeout))))
            have HB6 := Aside0.mk (HB5.out.setCell (p := ⟨g, 5, none⟩) HGE.out (.int .i64 (wrap64 (now + timeout))))
            have HK6 := Aside0.mk (HK5.out.set 5 (.int .i64 (wrap64 (now + timeout))))
            generalize w5.setCell ⟨g, 5, none⟩ (.int .i64 (wrap64 (now + timeout))) = w6 at HI6 HG6 BR6 BP6 HB6 HK6 ⊢
            clear cr c1 f5 c5 hHeld
            have cr := (blk_cell BR6.out 0).trans rfl
            have c0 := (blk_cell HG6.out 0).trans rfl
            have c3 := (blk_cell HG6.out 3).trans rfl
            go_wp2
            have HI7 := Aside0.mk HI6.out.drew
            have HG7 := Aside0.mk (blk_drew HG6.out)
            have BR7 := Aside0.mk (blk_drew BR6.out)
            have BP7 := Aside0.mk (blk_drew BP6.out)
            have HB7 := Aside0.mk HB6.out.drew
            have HK7 := Aside0.mk HK6.out.drew
            refine start_ (n := 12) (S := fun w' => w'.cell? ⟨gr, 0, none⟩ = some (.pointer (some ⟨g, 0, none⟩)) ∧ w'.cell? ⟨g, 0, none⟩ = some (.int .i64 id) ∧ w'.cell? ⟨g, 3, none⟩ = some (.int .i64 count)) (ds := []) #[Yn, Yn, Yn, Yn, Yn, Yn, Yn, Yn, Yn, Yn, Yn, Yn] (by kernel_rfl) rfl rfl ⟨cr, c0, c3⟩ (fun hHeld => ?_)
            generalize w6.drew = w7 at HI7 HG7 BR7 BP7 HB7 HK7 hHeld ⊢
            refine take_ (i := 0) (N := some 2) (v := ?_) (a' := ?_) #[Y, Yn, Yn, Yn, Yn, Yn, Yn, Yn, Yn, Yn, Yn, Yn] rfl rfl (by kernel_rfl) (fun _ _ _ h => h) (Or.inl ⟨by rfl, ?_⟩) hHeld ?_ ?_
            rotate_left
            · rintro w' ⟨s0, s1, s2⟩
              go_simp
              with_reducible rfl
            rotate_left
            · simp only [Act.put, List.setIfInBounds_toArray, List.set_cons_zero, List.set_cons_succ, i64_w, i32_w]
              rfl
            refine pure_ (i := 1) (N := some 3) (v := ?_) (a' := ?_) #[Y, Y, Yn, Yn, Yn, Yn, Yn, Yn, Yn, Yn, Yn, Yn] rfl rfl (by kernel_rfl) (fun _ _ _ h => h) (Or.inl ⟨by rfl, ?_⟩) ?_ ?_
            rotate_left
            · intro w'
              go_simp
              with_reducible rfl
            rotate_left
            · simp only [Act.put, List.setIfInBounds_toArray, List.set_cons_zero, List.set_cons_succ, i64_w, i32_w]
              rfl
            refine pure_ (i := 2) (N := some 4) (v := ?_) (a' := ?_) #[Y, Y, Y, Yn, Yn, Yn, Yn, Yn, Yn, Yn, Yn, Yn] rfl rfl (by kernel_rfl) (fun _ _ _ h => h) (Or.inl ⟨by rfl, ?_⟩) ?_ ?_
            rotate_left
            · intro w'
              go_simp
              with_reducible rfl
            rotate_left
            · simp only [Act.put, List.setIfInBounds_toArray, List.set_cons_zero, List.set_cons_succ, i64_w, i32_w]
              rfl
            refine take_ (i := 3) (N := some 5) (v := ?_) (a' := ?_) #[Y, Y, Y, Y, Yn, Yn, Yn, Yn, Yn, Yn, Yn, Yn] rfl rfl (by kernel_rfl) (fun _ _ _ h => h) (Or.inl ⟨by rfl, ?_⟩) hHeld ?_ ?_
            rotate_left
            · rintro w' ⟨s0, s1, s2⟩
              go_simp
              with_reducible rfl
            rotate_left
            · simp only [Act.put, List.setIfInBounds_toArray, List.set_cons_zero, List.set_cons_succ, i64_w, i32_w]
              rfl
            refine take_ (i := 4) (N := some 6) (v := ?_) (a' := ?_) #[Y, Y, Y, Y, Y, Yn, Yn, Yn, Yn, Yn, Yn, Yn] rfl rfl (by kernel_rfl) (fun _ _ _ h => h) (Or.inl ⟨by rfl, ?_⟩) hHeld ?_ ?_
            rotate_left
            · rintro w' ⟨s0, s1, s2⟩
              go_simp
              with_reducible rfl
            rotate_left
            · simp only [Act.put, List.setIfInBounds_toArray, List.set_cons_zero, List.set_cons_succ, i64_w, i32_w]
              rfl
            refine pure_ (i := 5) (N := some 7) (v := ?_) (a' := ?_) #[Y, Y, Y, Y, Y, Y, Yn, Yn, Yn, Yn, Yn, Yn] rfl rfl (by kernel_rfl) (fun _ _ _ h => h) (Or.inl ⟨by rfl, ?_⟩) ?_ ?_
            rotate_left
            · intro w'
              go_simp
              with_reducible rfl
            rotate_left
            · simp only [Act.put, List.setIfInBounds_toArray, List.set_cons_zero, List.set_cons_succ, i64_w, i32_w]
              rfl
            refine pure_ (i := 6) (N := some 8) (v := ?_) (a' := ?_) #[Y, Y, Y, Y, Y, Y, Y, Yn, Yn, Yn, Yn, Yn] rfl rfl (by kernel_rfl) (fun _ _ _ h => h) (Or.inl ⟨by rfl, ?_⟩) ?_ ?_
            rotate_left
            · intro w'
              go_simp
              with_reducible rfl
            rotate_left
            · simp only [Act.put, List.setIfInBounds_toArray, List.set_cons_zero, List.set_cons_succ, i64_w, i32_w]
              rfl
            refine take_ (i := 7) (N := some 9) (v := ?_) (a' := ?_) #[Y, Y, Y, Y, Y, Y, Y, Y, Yn, Yn, Yn, Yn] rfl rfl (by kernel_rfl) (fun _ _ _ h => h) (Or.inl ⟨by rfl, ?_⟩) hHeld ?_ ?_
            rotate_left
            · rintro w' ⟨s0, s1, s2⟩
              go_simp
              with_reducible rfl
            rotate_left
            · simp only [Act.put, List.setIfInBounds_toArray, List.set_cons_zero, List.set_cons_succ, i64_w, i32_w]
              rfl
            refine pure_ (i := 8) (N := some 10) (v := ?_) (a' := ?_) #[Y, Y, Y, Y, Y, Y, Y, Y, Y, Yn, Yn, Yn] rfl rfl (by kernel_rfl) (fun _ _ _ h => h) (Or.inl ⟨by rfl, ?_⟩) ?_ ?_
            rotate_left
            · intro w'
              go_simp
              with_reducible rfl
            rotate_left
            · simp only [Act.put, List.setIfInBounds_toArray, List.set_cons_zero, List.set_cons_succ, i64_w, i32_w]
              rfl
            refine pure_ (i := 9) (N := some 11) (v := ?_) (a' := ?_) #[Y, Y, Y, Y, Y, Y, Y, Y, Y, Y, Yn, Yn] rfl rfl (by kernel_rfl) (fun _ _ _ h => h) (Or.inl ⟨by rfl, ?_⟩) ?_ ?_
            rotate_left
            · intro w'
              go_simp
              with_reducible rfl
            rotate_left
            · simp only [Act.put, List.setIfInBounds_toArray, List.set_cons_zero, List.set_cons_succ, i64_w, i32_w]
              rfl
            refine one_ (i := 10) (N := some 12) #[Y, Y, Y, Y, Y, Y, Y, Y, Y, Y, Y, Yn] rfl rfl (by kernel_rfl) (by decide) (fun K hK => ?_)
            refine value_ (w1 := ?_) (v := ?_) (by rfl) rfl ?_ ?_
            rotate_left 2
            · go_simp
              constructor
              · rfl
              · rfl
            refine hK.out _ _ ⟨(blk_cell (by (with_reducible repeat (first | refine blk_drewN ?_ _ | refine blk_drew ?_ | refine blk_alloc ?_ _)); exact BR7.out) 0).trans rfl, (blk_cell (by (with_reducible repeat (first | refine blk_drewN ?_ _ | refine blk_drew ?_ | refine blk_alloc ?_ _)); exact HG7.out) 0).trans rfl, (blk_cell (by (with_reducible repeat (first | refine blk_drewN ?_ _ | refine blk_drew ?_ | refine blk_alloc ?_ _)); exact HG7.out) 3).trans rfl⟩ (fun hHeld => ?_)
            clear hK K
            refine norm_ (a' := ?_) ?_ ?_
            rotate_left
            · show Act.put _ (some 12) _ = _
              simp only [Act.put, List.setIfInBounds_toArray, List.set_cons_zero, List.set_cons_succ, i64_w, i32_w]
              rfl
            refine pure_ (i := 11) (N := some 1) (v := ?_) (a' := ?_) #[Y, Y, Y, Y, Y, Y, Y, Y, Y, Y, Y, Y] rfl rfl (by kernel_rfl) (fun _ _ _ h => h) (Or.inl ⟨by rfl, ?_⟩) ?_ ?_
            rotate_left
            · intro w'
              go_simp
              with_reducible rfl
            rotate_left
            · simp only [Act.put, List.setIfInBounds_toArray, List.set_cons_zero, List.set_cons_succ, i64_w, i32_w]
              rfl
            refine done_ (by kernel_rfl) ?_
            go_wp2
            go_ret
            exact ⟨_, rfl, V_one23 (Rn.ack ⟨id, timeout, state, count, msg, wrap64 (now + timeout)⟩) _ rfl HK7.out.size, (by first | exact HI7.out.alloc _ | (rw [HMS.out]; exact HI7.out.alloc _)), HB7.out.alloc (Nat.le_trans HBS.out HK7.out.size) _, HK7.out.alloc _⟩
        · have k4b : (state == 0) = false := beq_false_of_ne k4
          have HT := Aside0.mk (show Rn.handle ⟨id, timeout, state, count, msg, deadline⟩ p0 p1 p2 p3 p5 now = ([], ⟨id, timeout, state, count, msg, deadline⟩) by unfold Rn.handle; rw [if_pos k1, if_pos k2, if_neg k3, if_neg k4]; try rfl)
          rw [HT.out]
          clear k1 k2 k3 k4
          go_enter Tryd.func34, Tryd.ntmps34
          go_wp2_with (first | ((with_reducible refine gate_dst (N := 3) rfl ?_); refine box_event ?hg (N := 3) ?hd (cs := #[.pointer (some ⟨g, 0, none⟩)]) (t := 64) ?hr ?_; (case hd => rfl); (case hg => rfl); (case hr => first | (go_simp; done) | (go_simp; rfl)); intro gr hgr w1 hbox hb; have BRa := Aside0.mk hbox; have HIa := Aside0.mk (HI.out.below hb); have HGa := Aside0.mk (blk_below HG.out hb); have HBa := Aside0.mk (hb.mono HBS.out); have HKa := Aside0.mk (KeepR.of_below hb g); clear hb hbox hgr) | ((with_reducible refine gate_dst (N := 4) rfl ?_); refine box_event ?hg (N := 4) ?hd (cs := #[.int .i64 p0, .int .i64 p1, .int .i64 p2, .bool p3, .int .i64 p4, .string p5]) (t := 23) ?hr ?_; (case hd => rfl); (case hg => rfl); (case hr => first | (go_simp; done) | (go_simp; rfl)); intro gp hgp w2 hbox hb; have BP2 := Aside0.mk hbox; have BR2 := Aside0.mk (blk_below BRa.out hb); have HI2 := Aside0.mk (HIa.out.below hb); have HG2 := Aside0.mk (blk_below HGa.out hb); have HB2 := Aside0.mk (HBa.out.trans (hb.mono (Nat.le_trans HBS.out HKa.out.size))); have HK2 := Aside0.mk (HKa.out.trans (KeepR.of_below hb g)); have HNR := Aside0.mk (blk_ne BR2.out HG2.out (by decide)); have HNP := Aside0.mk (blk_ne BP2.out HG2.out (by decide)); have cr := (blk_cell BR2.out 0).trans rfl; have c0 := (blk_cell HG2.out 0).trans rfl; have y1 := (blk_cell BP2.out 1).trans rfl; clear hb hbox hgp BRa HIa HGa HBa HKa))
          have HI3 := Aside0.mk HI2.out.drew
          have HG3 := Aside0.mk (blk_drew HG2.out)
          have BR3 := Aside0.mk (blk_drew BR2.out)
          have BP3 := Aside0.mk (blk_drew BP2.out)
          have HB3 := Aside0.mk HB2.out.drew
          have HK3 := Aside0.mk HK2.out.drew
          refine start_ (n := 7) (S := fun w' => w'.cell? ⟨gp, 1, none⟩ = some (.int .i64 p1) ∧ w'.cell? ⟨gr, 0, none⟩ = some (.pointer (some ⟨g, 0, none⟩)) ∧ w'.cell? ⟨g, 0, none⟩ = some (.int .i64 id)) (ds := []) #[Yn, Yn, Yn, Yn, Yn, Yn, Yn] (by kernel_rfl) rfl rfl ⟨y1, cr, c0⟩ (fun hHeld => ?_)
          generalize w2.drew = w3 at HI3 HG3 BR3 BP3 HB3 HK3 hHeld ⊢
          refine pure_ (i := 0) (N := some 8) (v := ?_) (a' := ?_) #[Y, Yn, Yn, Yn, Yn, Yn, Yn] rfl rfl (by kernel_rfl) (fun _ _ _ h => h) (Or.inl ⟨by rfl, ?_⟩) ?_ ?_
          rotate_left
          · intro w'
            go_simp
            with_reducible rfl
          rotate_left
          · simp only [Act.put, List.setIfInBounds_toArray, List.set_cons_zero, List.set_cons_succ, i64_w, i32_w]
            rfl
          refine take_ (i := 1) (N := some 9) (v := ?_) (a' := ?_) #[Y, Y, Yn, Yn, Yn, Yn, Yn] rfl rfl (by kernel_rfl) (fun _ _ _ h => h) (Or.inl ⟨by rfl, ?_⟩) hHeld ?_ ?_
          rotate_left
          · rintro w' ⟨s0, s1, s2⟩
            go_simp
            with_reducible rfl
          rotate_left
          · simp only [Act.put, List.setIfInBounds_toArray, List.set_cons_zero, List.set_cons_succ, i64_w, i32_w]
            rfl
          refine take_ (i := 2) (N := some 10) (v := ?_) (a' := ?_) #[Y, Y, Y, Yn, Yn, Yn, Yn] rfl rfl (by kernel_rfl) (fun _ _ _ h => h) (Or.inl ⟨by rfl, ?_⟩) hHeld ?_ ?_
          rotate_left
          · rintro w' ⟨s0, s1, s2⟩
            go_simp
            with_reducible rfl
          rotate_left
          · simp only [Act.put, List.setIfInBounds_toArray, List.set_cons_zero, List.set_cons_succ, i64_w, i32_w]
            rfl
          refine pure_ (i := 3) (N := some 11) (v := ?_) (a' := ?_) #[Y, Y, Y, Y, Yn, Yn, Yn] rfl rfl (by kernel_rfl) (fun _ _ _ h => h) (Or.inl ⟨by rfl, ?_⟩) ?_ ?_
          rotate_left
          · intro w'
            go_simp
            with_reducible rfl
          rotate_left
          · simp only [Act.put, List.setIfInBounds_toArray, List.set_cons_zero, List.set_cons_succ, i64_w, i32_w]
            rfl
          refine pure_ (i := 4) (N := some 12) (v := ?_) (a' := ?_) #[Y, Y, Y, Y, Y, Yn, Yn] rfl rfl (by kernel_rfl) (fun _ _ _ h => h) (Or.inl ⟨by rfl, ?_⟩) ?_ ?_
          rotate_left
          · intro w'
            go_simp
            with_reducible rfl
          rotate_left
          · simp only [Act.put, List.setIfInBounds_toArray, List.set_cons_zero, List.set_cons_succ, i64_w, i32_w]
            rfl
          refine take_ (i := 5) (N := some 13) (v := ?_) (a' := ?_) #[Y, Y, Y, Y, Y, Y, Yn] rfl rfl (by kernel_rfl) (fun _ _ _ h => h) (Or.inl ⟨by rfl, ?_⟩) hHeld ?_ ?_
          rotate_left
          · rintro w' ⟨s0, s1, s2⟩
            go_simp
            with_reducible rfl
          rotate_left
          · simp only [Act.put, List.setIfInBounds_toArray, List.set_cons_zero, List.set_cons_succ, i64_w, i32_w]
            rfl
          refine pure_ (i := 6) (N := some 14) (v := ?_) (a' := ?_) #[Y, Y, Y, Y, Y, Y, Y] rfl rfl (by kernel_rfl) (fun _ _ _ h => h) (Or.inl ⟨by rfl, ?_⟩) ?_ ?_
          rotate_left
          · intro w'
            go_simp
            with_reducible rfl
          rotate_left
          · simp only [Act.put, List.setIfInBounds_toArray, List.set_cons_zero, List.set_cons_succ, i64_w, i32_w]
            rfl
          refine done_ (by kernel_rfl) ?_
          clear cr c0 y1 hHeld
          have cr := (blk_cell BR3.out 0).trans rfl
          have y0 := (blk_cell BP3.out 0).trans rfl
          have c2 := (blk_cell HG3.out 2).trans rfl
          go_wp2
          go_ret
          exact ⟨_, rfl, FV.nil k23 23 _ _, HI3.out, HB3.out, HK3.out⟩
    · have k2b : (p0 == 1) = false := beq_false_of_ne k2
      by_cases k7 : p0 = 3
      · have k7b : (p0 == 3) = true := by rw [k7]; rfl
        by_cases k4 : state = 0
        · have k4b : (state == 0) = true := by rw [k4]; rfl
          have HT := Aside0.mk (show Rn.handle ⟨id, timeout, state, count, msg, deadline⟩ p0 p1 p2 p3 p5 now = ([], ⟨id, timeout, 2, count, msg, deadline⟩) by unfold Rn.handle; rw [if_pos k1, if_neg k2, if_pos k7, if_pos k4]; try rfl)
          rw [HT.out]
          clear k1 k2 k4 k7
          go_enter Tryd.func34, Tryd.ntmps34
          go_wp2_with (first | ((with_reducible refine gate_dst (N := 3) rfl ?_); refine box_event ?hg (N := 3) ?hd (cs := #[.pointer (some ⟨g, 0, none⟩)]) (t := 64) ?hr ?_; (case hd => rfl); (case hg => rfl); (case hr => first | (go_simp; done) | (go_simp; rfl)); intro gr hgr w1 hbox hb; have BRa := Aside0.mk hbox; have HIa := Aside0.mk (HI.out.below hb); have HGa := Aside0.mk (blk_below HG.out hb); have HBa := Aside0.mk (hb.mono HBS.out); have HKa := Aside0.mk (KeepR.of_below hb g); clear hb hbox hgr) | ((with_reducible refine gate_dst (N := 4) rfl ?_); refine box_event ?hg (N := 4) ?hd (cs := #[.int .i64 p0, .int .i64 p1, .int .i64 p2, .bool p3, .int .i64 p4, .string p5]) (t := 23) ?hr ?_; (case hd => rfl); (case hg => rfl); (case hr => first | (go_simp; done) | (go_simp; rfl)); intro gp hgp w2 hbox hb; have BP2 := Aside0.mk hbox; have BR2 := Aside0.mk (blk_below BRa.out hb); have HI2 := Aside0.mk (HIa.out.below hb); have HG2 := Aside0.mk (blk_below HGa.out hb); have HB2 := Aside0.mk (HBa.out.trans (hb.mono (Nat.le_trans HBS.out HKa.out.size))); have HK2 := Aside0.mk (HKa.out.trans (KeepR.of_below hb g)); have HNR := Aside0.mk (blk_ne BR2.out HG2.out (by decide)); have HNP := Aside0.mk (blk_ne BP2.out HG2.out (by decide)); have cr := (blk_cell BR2.out 0).trans rfl; have c0 := (blk_cell HG2.out 0).trans rfl; have y1 := (blk_cell BP2.out 1).trans rfl; clear hb hbox hgp BRa HIa HGa HBa HKa))
          have HI3 := Aside0.mk HI2.out.drew
          have HG3 := Aside0.mk (blk_drew HG2.out)
          have BR3 := Aside0.mk (blk_drew BR2.out)
          have BP3 := Aside0.mk (blk_drew BP2.out)
          have HB3 := Aside0.mk HB2.out.drew
          have HK3 := Aside0.mk HK2.out.drew
          refine start_ (n := 7) (S := fun w' => w'.cell? ⟨gp, 1, none⟩ = some (.int .i64 p1) ∧ w'.cell? ⟨gr, 0, none⟩ = some (.pointer (some ⟨g, 0, none⟩)) ∧ w'.cell? ⟨g, 0, none⟩ = some (.int .i64 id)) (ds := []) #[Yn, Yn, Yn, Yn, Yn, Yn, Yn] (by kernel_rfl) rfl rfl ⟨y1, cr, c0⟩ (fun hHeld => ?_)
          generalize w2.drew = w3 at HI3 HG3 BR3 BP3 HB3 HK3 hHeld ⊢
          refine pure_ (i := 0) (N := some 8) (v := ?_) (a' := ?_) #[Y, Yn, Yn, Yn, Yn, Yn, Yn] rfl rfl (by kernel_rfl) (fun _ _ _ h => h) (Or.inl ⟨by rfl, ?_⟩) ?_ ?_
          rotate_left
          · intro w'
            go_simp
            with_reducible rfl
          rotate_left
          · simp only [Act.put, List.setIfInBounds_toArray, List.set_cons_zero, List.set_cons_succ, i64_w, i32_w]
            rfl
          refine take_ (i := 1) (N := some 9) (v := ?_) (a' := ?_) #[Y, Y, Yn, Yn, Yn, Yn, Yn] rfl rfl (by kernel_rfl) (fun _ _ _ h => h) (Or.inl ⟨by rfl, ?_⟩) hHeld ?_ ?_
          rotate_left
          · rintro w' ⟨s0, s1, s2⟩
            go_simp
            with_reducible rfl
          rotate_left
          · simp only [Act.put, List.setIfInBounds_toArray, List.set_cons_zero, List.set_cons_succ, i64_w, i32_w]
            rfl
          refine take_ (i := 2) (N := some 10) (v := ?_) (a' := ?_) #[Y, Y, Y, Yn, Yn, Yn, Yn] rfl rfl (by kernel_rfl) (fun _ _ _ h => h) (Or.inl ⟨by rfl, ?_⟩) hHeld ?_ ?_
          rotate_left
          · rintro w' ⟨s0, s1, s2⟩
            go_simp
            with_reducible rfl
          rotate_left
          · simp only [Act.put, List.setIfInBounds_toArray, List.set_cons_zero, List.set_cons_succ, i64_w, i32_w]
            rfl
          refine pure_ (i := 3) (N := some 11) (v := ?_) (a' := ?_) #[Y, Y, Y, Y, Yn, Yn, Yn] rfl rfl (by kernel_rfl) (fun _ _ _ h => h) (Or.inl ⟨by rfl, ?_⟩) ?_ ?_
          rotate_left
          · intro w'
            go_simp
            with_reducible rfl
          rotate_left
          · simp only [Act.put, List.setIfInBounds_toArray, List.set_cons_zero, List.set_cons_succ, i64_w, i32_w]
            rfl
          refine pure_ (i := 4) (N := some 12) (v := ?_) (a' := ?_) #[Y, Y, Y, Y, Y, Yn, Yn] rfl rfl (by kernel_rfl) (fun _ _ _ h => h) (Or.inl ⟨by rfl, ?_⟩) ?_ ?_
          rotate_left
          · intro w'
            go_simp
            with_reducible rfl
          rotate_left
          · simp only [Act.put, List.setIfInBounds_toArray, List.set_cons_zero, List.set_cons_succ, i64_w, i32_w]
            rfl
          refine take_ (i := 5) (N := some 13) (v := ?_) (a' := ?_) #[Y, Y, Y, Y, Y, Y, Yn] rfl rfl (by kernel_rfl) (fun _ _ _ h => h) (Or.inl ⟨by rfl, ?_⟩) hHeld ?_ ?_
          rotate_left
          · rintro w' ⟨s0, s1, s2⟩
            go_simp
            with_reducible rfl
          rotate_left
          · simp only [Act.put, List.setIfInBounds_toArray, List.set_cons_zero, List.set_cons_succ, i64_w, i32_w]
            rfl
          refine pure_ (i := 6) (N := some 14) (v := ?_) (a' := ?_) #[Y, Y, Y, Y, Y, Y, Y] rfl rfl (by kernel_rfl) (fun _ _ _ h => h) (Or.inl ⟨by rfl, ?_⟩) ?_ ?_
          rotate_left
          · intro w'
            go_simp
            with_reducible rfl
          rotate_left
          · simp only [Act.put, List.setIfInBounds_toArray, List.set_cons_zero, List.set_cons_succ, i64_w, i32_w]
            rfl
          refine done_ (by kernel_rfl) ?_
          clear cr c0 y1 hHeld
          have cr := (blk_cell BR3.out 0).trans rfl
          have y0 := (blk_cell BP3.out 0).trans rfl
          have c2 := (blk_cell HG3.out 2).trans rfl
          have f2 := blk_frozen HG3.out 2
          have HI4 := Aside0.mk (HI3.out.set_state 2)
          have HG4 := Aside0.mk (blk_put HG3.out 2 (.int .i64 2) rfl)
          have BR4 := Aside0.mk (blk_far BR3.out (p := ⟨g, 2, none⟩) HNR.out (.int .i64 2))
          have BP4 := Aside0.mk (blk_far BP3.out (p := ⟨g, 2, none⟩) HNP.out (.int .i64 2))
          have HB4 := Aside0.mk (HB3.out.setCell (p := ⟨g, 2, none⟩) HGE.out (.int .i64 2))
          have HK4 := Aside0.mk (HK3.out.set 2 (.int .i64 2))
          go_wp2
          go_ret
          exact ⟨_, rfl, FV.nil k23 23 _ _, HI4.out, HB4.out, HK4.out⟩
        · have k4b : (state == 0) = false := beq_false_of_ne k4
          have HT := Aside0.mk (show Rn.handle ⟨id, timeout, state, count, msg, deadline⟩ p0 p1 p2 p3 p5 now = ([], ⟨id, timeout, state, count, msg, deadline⟩) by unfold Rn.handle; rw [if_pos k1, if_neg k2, if_pos k7, if_neg k4]; try rfl)
          rw [HT.out]
          clear k1 k2 k7 k4
          go_enter Tryd.func34, Tryd.ntmps34
          go_wp2_with (first | ((with_reducible refine gate_dst (N := 3) rfl ?_); refine box_event ?hg (N := 3) ?hd (cs := #[.pointer (some ⟨g, 0, none⟩)]) (t := 64) ?hr ?_; (case hd => rfl); (case hg => rfl); (case hr => first | (go_simp; done) | (go_simp; rfl)); intro gr hgr w1 hbox hb; have BRa := Aside0.mk hbox; have HIa := Aside0.mk (HI.out.below hb); have HGa := Aside0.mk (blk_below HG.out hb); have HBa := Aside0.mk (hb.mono HBS.out); have HKa := Aside0.mk (KeepR.of_below hb g); clear hb hbox hgr) | ((with_reducible refine gate_dst (N := 4) rfl ?_); refine box_event ?hg (N := 4) ?hd (cs := #[.int .i64 p0, .int .i64 p1, .int .i64 p2, .bool p3, .int .i64 p4, .string p5]) (t := 23) ?hr ?_; (case hd => rfl); (case hg => rfl); (case hr => first | (go_simp; done) | (go_simp; rfl)); intro gp hgp w2 hbox hb; have BP2 := Aside0.mk hbox; have BR2 := Aside0.mk (blk_below BRa.out hb); have HI2 := Aside0.mk (HIa.out.below hb); have HG2 := Aside0.mk (blk_below HGa.out hb); have HB2 := Aside0.mk (HBa.out.trans (hb.mono (Nat.le_trans HBS.out HKa.out.size))); have HK2 := Aside0.mk (HKa.out.trans (KeepR.of_below hb g)); have HNR := Aside0.mk (blk_ne BR2.out HG2.out (by decide)); have HNP := Aside0.mk (blk_ne BP2.out HG2.out (by decide)); have cr := (blk_cell BR2.out 0).trans rfl; have c0 := (blk_cell HG2.out 0).trans rfl; have y1 := (blk_cell BP2.out 1).trans rfl; clear hb hbox hgp BRa HIa HGa HBa HKa))
          have HI3 := Aside0.mk HI2.out.drew
          have HG3 := Aside0.mk (blk_drew HG2.out)
          have BR3 := Aside0.mk (blk_drew BR2.out)
          have BP3 := Aside0.mk (blk_drew BP2.out)
          have HB3 := Aside0.mk HB2.out.drew
          have HK3 := Aside0.mk HK2.out.drew
          refine start_ (n := 7) (S := fun w' => w'.cell? ⟨gp, 1, none⟩ = some (.int .i64 p1) ∧ w'.cell? ⟨gr, 0, none⟩ = some (.pointer (some ⟨g, 0, none⟩)) ∧ w'.cell? ⟨g, 0, none⟩ = some (.int .i64 id)) (ds := []) #[Yn, Yn, Yn, Yn, Yn, Yn, Yn] (by kernel_rfl) rfl rfl ⟨y1, cr, c0⟩ (fun hHeld => ?_)
          generalize w2.drew = w3 at HI3 HG3 BR3 BP3 HB3 HK3 hHeld ⊢
          refine pure_ (i := 0) (N := some 8) (v := ?_) (a' := ?_) #[Y, Yn, Yn, Yn, Yn, Yn, Yn] rfl rfl (by kernel_rfl) (fun _ _ _ h => h) (Or.inl ⟨by rfl, ?_⟩) ?_ ?_
          rotate_left
          · intro w'
            go_simp
            with_reducible rfl
          rotate_left
          · simp only [Act.put, List.setIfInBounds_toArray, List.set_cons_zero, List.set_cons_succ, i64_w, i32_w]
            rfl
          refine take_ (i := 1) (N := some 9) (v := ?_) (a' := ?_) #[Y, Y, Yn, Yn, Yn, Yn, Yn] rfl rfl (by kernel_rfl) (fun _ _ _ h => h) (Or.inl ⟨by rfl, ?_⟩) hHeld ?_ ?_
          rotate_left
          · rintro w' ⟨s0, s1, s2⟩
            go_simp
            with_reducible rfl
          rotate_left
          · simp only [Act.put, List.setIfInBounds_toArray, List.set_cons_zero, List.set_cons_succ, i64_w, i32_w]
            rfl
          refine take_ (i := 2) (N := some 10) (v := ?_) (a' := ?_) #[Y, Y, Y, Yn, Yn, Yn, Yn] rfl rfl (by kernel_rfl) (fun _ _ _ h => h) (Or.inl ⟨by rfl, ?_⟩) hHeld ?_ ?_
          rotate_left
          · rintro w' ⟨s0, s1, s2⟩
            go_simp
            with_reducible rfl
          rotate_left
          · simp only [Act.put, List.setIfInBounds_toArray, List.set_cons_zero, List.set_cons_succ, i64_w, i32_w]
            rfl
          refine pure_ (i := 3) (N := some 11) (v := ?_) (a' := ?_) #[Y, Y, Y, Y, Yn, Yn, Yn] rfl rfl (by kernel_rfl) (fun _ _ _ h => h) (Or.inl ⟨by rfl, ?_⟩) ?_ ?_
          rotate_left
          · intro w'
            go_simp
            with_reducible rfl
          rotate_left
          · simp only [Act.put, List.setIfInBounds_toArray, List.set_cons_zero, List.set_cons_succ, i64_w, i32_w]
            rfl
          refine pure_ (i := 4) (N := some 12) (v := ?_) (a' := ?_) #[Y, Y, Y, Y, Y, Yn, Yn] rfl rfl (by kernel_rfl) (fun _ _ _ h => h) (Or.inl ⟨by rfl, ?_⟩) ?_ ?_
          rotate_left
          · intro w'
            go_simp
            with_reducible rfl
          rotate_left
          · simp only [Act.put, List.setIfInBounds_toArray, List.set_cons_zero, List.set_cons_succ, i64_w, i32_w]
            rfl
          refine take_ (i := 5) (N := some 13) (v := ?_) (a' := ?_) #[Y, Y, Y, Y, Y, Y, Yn] rfl rfl (by kernel_rfl) (fun _ _ _ h => h) (Or.inl ⟨by rfl, ?_⟩) hHeld ?_ ?_
          rotate_left
          · rintro w' ⟨s0, s1, s2⟩
            go_simp
            with_reducible rfl
          rotate_left
          · simp only [Act.put, List.setIfInBounds_toArray, List.set_cons_zero, List.set_cons_succ, i64_w, i32_w]
            rfl
          refine pure_ (i := 6) (N := some 14) (v := ?_) (a' := ?_) #[Y, Y, Y, Y, Y, Y, Y] rfl rfl (by kernel_rfl) (fun _ _ _ h => h) (Or.inl ⟨by rfl, ?_⟩) ?_ ?_
          rotate_left
          · intro w'
            go_simp
            with_reducible rfl
          rotate_left
          · simp only [Act.put, List.setIfInBounds_toArray, List.set_cons_zero, List.set_cons_succ, i64_w, i32_w]
            rfl
          refine done_ (by kernel_rfl) ?_
          clear cr c0 y1 hHeld
          have cr := (blk_cell BR3.out 0).trans rfl
          have y0 := (blk_cell BP3.out 0).trans rfl
          have c2 := (blk_cell HG3.out 2).trans rfl
          go_wp2
          go_ret
          exact ⟨_, rfl, FV.nil k23 23 _ _, HI3.out, HB3.out, HK3.out⟩
      · have k7b : (p0 == 3) = false := beq_false_of_ne k7
        have HT := Aside0.mk (show Rn.handle ⟨id, timeout, state, count, msg, deadline⟩ p0 p1 p2 p3 p5 now = ([], ⟨id, timeout, state, count, msg, deadline⟩) by unfold Rn.handle; rw [if_pos k1, if_neg k2, if_neg k7]; try rfl)
        rw [HT.out]
        clear k1 k2 k7
        go_enter Tryd.func34, Tryd.ntmps34
        go_wp2_with (first | ((with_reducible refine gate_dst (N := 3) rfl ?_); refine box_event ?hg (N := 3) ?hd (cs := #[.pointer (some ⟨g, 0, none⟩)]) (t := 64) ?hr ?_; (case hd => rfl); (case hg => rfl); (case hr => first | (go_simp; done) | (go_simp; rfl)); intro gr hgr w1 hbox hb; have BRa := Aside0.mk hbox; have HIa := Aside0.mk (HI.out.below hb); have HGa := Aside0.mk (blk_below HG.out hb); have HBa := Aside0.mk (hb.mono HBS.out); have HKa := Aside0.mk (KeepR.of_below hb g); clear hb hbox hgr) | ((with_reducible refine gate_dst (N := 4) rfl ?_); refine box_event ?hg (N := 4) ?hd (cs := #[.int .i64 p0, .int .i64 p1, .int .i64 p2, .bool p3, .int .i64 p4, .string p5]) (t := 23) ?hr ?_; (case hd => rfl); (case hg => rfl); (case hr => first | (go_simp; done) | (go_simp; rfl)); intro gp hgp w2 hbox hb; have BP2 := Aside0.mk hbox; have BR2 := Aside0.mk (blk_below BRa.out hb); have HI2 := Aside0.mk (HIa.out.below hb); have HG2 := Aside0.mk (blk_below HGa.out hb); have HB2 := Aside0.mk (HBa.out.trans (hb.mono (Nat.le_trans HBS.out HKa.out.size))); have HK2 := Aside0.mk (HKa.out.trans (KeepR.of_below hb g)); have HNR := Aside0.mk (blk_ne BR2.out HG2.out (by decide)); have HNP := Aside0.mk (blk_ne BP2.out HG2.out (by decide)); have cr := (blk_cell BR2.out 0).trans rfl; have c0 := (blk_cell HG2.out 0).trans rfl; have y1 := (blk_cell BP2.out 1).trans rfl; clear hb hbox hgp BRa HIa HGa HBa HKa))
        have HI3 := Aside0.mk HI2.out.drew
        have HG3 := Aside0.mk (blk_drew HG2.out)
        have BR3 := Aside0.mk (blk_drew BR2.out)
        have BP3 := Aside0.mk (blk_drew BP2.out)
        have HB3 := Aside0.mk HB2.out.drew
        have HK3 := Aside0.mk HK2.out.drew
        refine start_ (n := 7) (S := fun w' => w'.cell? ⟨gp, 1, none⟩ = some (.int .i64 p1) ∧ w'.cell? ⟨gr, 0, none⟩ = some (.pointer (some ⟨g, 0, none⟩)) ∧ w'.cell? ⟨g, 0, none⟩ = some (.int .i64 id)) (ds := []) #[Yn, Yn, Yn, Yn, Yn, Yn, Yn] (by kernel_rfl) rfl rfl ⟨y1, cr, c0⟩ (fun hHeld => ?_)
        generalize w2.drew = w3 at HI3 HG3 BR3 BP3 HB3 HK3 hHeld ⊢
        refine pure_ (i := 0) (N := some 8) (v := ?_) (a' := ?_) #[Y, Yn, Yn, Yn, Yn, Yn, Yn] rfl rfl (by kernel_rfl) (fun _ _ _ h => h) (Or.inl ⟨by rfl, ?_⟩) ?_ ?_
        rotate_left
        · intro w'
          go_simp
          with_reducible rfl
        rotate_left
        · simp only [Act.put, List.setIfInBounds_toArray, List.set_cons_zero, List.set_cons_succ, i64_w, i32_w]
          rfl
        refine take_ (i := 1) (N := some 9) (v := ?_) (a' := ?_) #[Y, Y, Yn, Yn, Yn, Yn, Yn] rfl rfl (by kernel_rfl) (fun _ _ _ h => h) (Or.inl ⟨by rfl, ?_⟩) hHeld ?_ ?_
        rotate_left
        · rintro w' ⟨s0, s1, s2⟩
          go_simp
          with_reducible rfl
        rotate_left
        · simp only [Act.put, List.setIfInBounds_toArray, List.set_cons_zero, List.set_cons_succ, i64_w, i32_w]
          rfl
        refine take_ (i := 2) (N := some 10) (v := ?_) (a' := ?_) #[Y, Y, Y, Yn, Yn, Yn, Yn] rfl rfl (by kernel_rfl) (fun _ _ _ h => h) (Or.inl ⟨by rfl, ?_⟩) hHeld ?_ ?_
        rotate_left
        · rintro w' ⟨s0, s1, s2⟩
          go_simp
          with_reducible rfl
        rotate_left
        · simp only [Act.put, List.setIfInBounds_toArray, List.set_cons_zero, List.set_cons_succ, i64_w, i32_w]
          rfl
        refine pure_ (i := 3) (N := some 11) (v := ?_) (a' := ?_) #[Y, Y, Y, Y, Yn, Yn, Yn] rfl rfl (by kernel_rfl) (fun _ _ _ h => h) (Or.inl ⟨by rfl, ?_⟩) ?_ ?_
        rotate_left
        · intro w'
          go_simp
          with_reducible rfl
        rotate_left
        · simp only [Act.put, List.setIfInBounds_toArray, List.set_cons_zero, List.set_cons_succ, i64_w, i32_w]
          rfl
        refine pure_ (i := 4) (N := some 12) (v := ?_) (a' := ?_) #[Y, Y, Y, Y, Y, Yn, Yn] rfl rfl (by kernel_rfl) (fun _ _ _ h => h) (Or.inl ⟨by rfl, ?_⟩) ?_ ?_
        rotate_left
        · intro w'
          go_simp
          with_reducible rfl
        rotate_left
        · simp only [Act.put, List.setIfInBounds_toArray, List.set_cons_zero, List.set_cons_succ, i64_w, i32_w]
          rfl
        refine take_ (i := 5) (N := some 13) (v := ?_) (a' := ?_) #[Y, Y, Y, Y, Y, Y, Yn] rfl rfl (by kernel_rfl) (fun _ _ _ h => h) (Or.inl ⟨by rfl, ?_⟩) hHeld ?_ ?_
        rotate_left
        · rintro w' ⟨s0, s1, s2⟩
          go_simp
          with_reducible rfl
        rotate_left
        · simp only [Act.put, List.setIfInBounds_toArray, List.set_cons_zero, List.set_cons_succ, i64_w, i32_w]
          rfl
        refine pure_ (i := 6) (N := some 14) (v := ?_) (a' := ?_) #[Y, Y, Y, Y, Y, Y, Y] rfl rfl (by kernel_rfl) (fun _ _ _ h => h) (Or.inl ⟨by rfl, ?_⟩) ?_ ?_
        rotate_left
        · intro w'
          go_simp
          with_reducible rfl
        rotate_left
        · simp only [Act.put, List.setIfInBounds_toArray, List.set_cons_zero, List.set_cons_succ, i64_w, i32_w]
          rfl
        refine done_ (by kernel_rfl) ?_
        clear cr c0 y1 hHeld
        have cr := (blk_cell BR3.out 0).trans rfl
        have y0 := (blk_cell BP3.out 0).trans rfl
        have c2 := (blk_cell HG3.out 2).trans rfl
        go_wp2
        go_ret
        exact ⟨_, rfl, FV.nil k23 23 _ _, HI3.out, HB3.out, HK3.out⟩
  · have k1b : (p1 != id) = true := bne_iff_ne.mpr k1
    have HT := Aside0.mk (show Rn.handle ⟨id, timeout, state, count, msg, deadline⟩ p0 p1 p2 p3 p5 now = ([], ⟨id, timeout, state, count, msg, deadline⟩) by unfold Rn.handle; rw [if_neg k1]; try rfl)
    rw [HT.out]
    clear k1
    go_enter Tryd.func34, Tryd.ntmps34
    go_wp2_with (first | ((with_reducible refine gate_dst (N := 3) rfl ?_); refine box_event ?hg (N := 3) ?hd (cs := #[.pointer (some ⟨g, 0, none⟩)]) (t := 64) ?hr ?_; (case hd => rfl); (case hg => rfl); (case hr => first | (go_simp; done) | (go_simp; rfl)); intro gr hgr w1 hbox hb; have BRa := Aside0.mk hbox; have HIa := Aside0.mk (HI.out.below hb); have HGa := Aside0.mk (blk_below HG.out hb); have HBa := Aside0.mk (hb.mono HBS.out); have HKa := Aside0.mk (KeepR.of_below hb g); clear hb hbox hgr) | ((with_reducible refine gate_dst (N := 4) rfl ?_); refine box_event ?hg (N := 4) ?hd (cs := #[.int .i64 p0, .int .i64 p1, .int .i64 p2, .bool p3, .int .i64 p4, .string p5]) (t := 23) ?hr ?_; (case hd => rfl); (case hg => rfl); (case hr => first | (go_simp; done) | (go_simp; rfl)); intro gp hgp w2 hbox hb; have BP2 := Aside0.mk hbox; have BR2 := Aside0.mk (blk_below BRa.out hb); have HI2 := Aside0.mk (HIa.out.below hb); have HG2 := Aside0.mk (blk_below HGa.out hb); have HB2 := Aside0.mk (HBa.out.trans (hb.mono (Nat.le_trans HBS.out HKa.out.size))); have HK2 := Aside0.mk (HKa.out.trans (KeepR.of_below hb g)); have HNR := Aside0.mk (blk_ne BR2.out HG2.out (by decide)); have HNP := Aside0.mk (blk_ne BP2.out HG2.out (by decide)); have cr := (blk_cell BR2.out 0).trans rfl; have c0 := (blk_cell HG2.out 0).trans rfl; have y1 := (blk_cell BP2.out 1).trans rfl; clear hb hbox hgp BRa HIa HGa HBa HKa))
    have HI3 := Aside0.mk HI2.out.drew
    have HG3 := Aside0.mk (blk_drew HG2.out)
    have BR3 := Aside0.mk (blk_drew BR2.out)
    have BP3 := Aside0.mk (blk_drew BP2.out)
    have HB3 := Aside0.mk HB2.out.drew
    have HK3 := Aside0.mk HK2.out.drew
    refine start_ (n := 7) (S := fun w' => w'.cell? ⟨gp, 1, none⟩ = some (.int .i64 p1) ∧ w'.cell? ⟨gr, 0, none⟩ = some (.pointer (some ⟨g, 0, none⟩)) ∧ w'.cell? ⟨g, 0, none⟩ = some (.int .i64 id)) (ds := []) #[Yn, Yn, Yn, Yn, Yn, Yn, Yn] (by kernel_rfl) rfl rfl ⟨y1, cr, c0⟩ (fun hHeld => ?_)
    generalize w2.drew = w3 at HI3 HG3 BR3 BP3 HB3 HK3 hHeld ⊢
    refine pure_ (i := 0) (N := some 8) (v := ?_) (a' := ?_) #[Y, Yn, Yn, Yn, Yn, Yn, Yn] rfl rfl (by kernel_rfl) (fun _ _ _ h => h) (Or.inl ⟨by rfl, ?_⟩) ?_ ?_
    rotate_left
    · intro w'
      go_simp
      with_reducible rfl
    rotate_left
    · simp only [Act.put, List.setIfInBounds_toArray, List.set_cons_zero, List.set_cons_succ, i64_w, i32_w]
      rfl
    refine take_ (i := 1) (N := some 9) (v := ?_) (a' := ?_) #[Y, Y, Yn, Yn, Yn, Yn, Yn] rfl rfl (by kernel_rfl) (fun _ _ _ h => h) (Or.inl ⟨by rfl, ?_⟩) hHeld ?_ ?_
    rotate_left
    · rintro w' ⟨s0, s1, s2⟩
      go_simp
      with_reducible rfl
    rotate_left
    · simp only [Act.put, List.setIfInBounds_toArray, List.set_cons_zero, List.set_cons_succ, i64_w, i32_w]
      rfl
    refine take_ (i := 2) (N := some 10) (v := ?_) (a' := ?_) #[Y, Y, Y, Yn, Yn, Yn, Yn] rfl rfl (by kernel_rfl) (fun _ _ _ h => h) (Or.inl ⟨by rfl, ?_⟩) hHeld ?_ ?_
    rotate_left
    · rintro w' ⟨s0, s1, s2⟩
      go_simp
      with_reducible rfl
    rotate_left
    · simp only [Act.put, List.setIfInBounds_toArray, List.set_cons_zero, List.set_cons_succ, i64_w, i32_w]
      rfl
    refine pure_ (i := 3) (N := some 11) (v := ?_) (a' := ?_) #[Y, Y, Y, Y, Yn, Yn, Yn] rfl rfl (by kernel_rfl) (fun _ _ _ h => h) (Or.inl ⟨by rfl, ?_⟩) ?_ ?_
    rotate_left
    · intro w'
      go_simp
      with_reducible rfl
    rotate_left
    · simp only [Act.put, List.setIfInBounds_toArray, List.set_cons_zero, List.set_cons_succ, i64_w, i32_w]
      rfl
    refine pure_ (i := 4) (N := some 12) (v := ?_) (a' := ?_) #[Y, Y, Y, Y, Y, Yn, Yn] rfl rfl (by kernel_rfl) (fun _ _ _ h => h) (Or.inl ⟨by rfl, ?_⟩) ?_ ?_
    rotate_left
    · intro w'
      go_simp
      with_reducible rfl
    rotate_left
    · simp only [Act.put, List.setIfInBounds_toArray, List.set_cons_zero, List.set_cons_succ, i64_w, i32_w]
      rfl
    refine take_ (i := 5) (N := some 13) (v := ?_) (a' := ?_) #[Y, Y, Y, Y, Y, Y, Yn] rfl rfl (by kernel_rfl) (fun _ _ _ h => h) (Or.inl ⟨by rfl, ?_⟩) hHeld ?_ ?_
    rotate_left
    · rintro w' ⟨s0, s1, s2⟩
      go_simp
      with_reducible rfl
    rotate_left
    · simp only [Act.put, List.setIfInBounds_toArray, List.set_cons_zero, List.set_cons_succ, i64_w, i32_w]
      rfl
    refine pure_ (i := 6) (N := some 14) (v := ?_) (a' := ?_) #[Y, Y, Y, Y, Y, Y, Y] rfl rfl (by kernel_rfl) (fun _ _ _ h => h) (Or.inl ⟨by rfl, ?_⟩) ?_ ?_
    rotate_left
    · intro w'
      go_simp
      with_reducible rfl
    rotate_left
    · simp only [Act.put, List.setIfInBounds_toArray, List.set_cons_zero, List.set_cons_succ, i64_w, i32_w]
      rfl
    refine done_ (by kernel_rfl) ?_
    go_wp2
    go_ret
    exact ⟨_, rfl, FV.nil k23 23 _ _, HI3.out, HB3.out, HK3.out⟩
end Go.Proofs.YtbgabhknmpbgiaaDoor.S
end
section
namespace Go.Proofs.YtbgabhknmpbgiaaDoor.S
open Go.RowKit Go.Proofs.YtbgabhknmpbgiaaDoorW.PrintWords Go.Proofs.YtbgabhknmpbgiaaDoorW.PrintLast Go.Proofs.YtbgabhknmpbgiaaDoorW.PrintMore
set_option linter.unusedVariables false
set_option linter.unusedSimpArgs false
structure Keep23 (w w' : World) : Prop where
  size : w.heap.size ≤ w'.heap.size
  keep : ∀ (k : Nat) cs, w.heap[k]? = some (.cells cs 23 (0, 0)) → w'.heap[k]? = some (.cells cs 23 (0, 0))
theorem Keep23.of_below {w w1 : World} (h : Below w.heap.size w w1) : Keep23 w w1 := ⟨h.size, fun j cs hj => blk_below hj h⟩
theorem Keep23.of_keepBut {w w1 : World} {g : Nat} (h : KeepBut w w1 g none) {cs : Array Value} {t : TypeId} (hg : w.heap[g]? = some (.cells cs t (0, 0))) (ht : t ≠ 23) : Keep23 w w1 := ⟨h.1, fun j cs' hj => (h.2 j (blk_lt hj) (fun e => by subst e; rw [hj] at hg; injection hg with hg; injection hg with _ hg _; exact ht hg.symm) (by simp)).trans hj⟩
theorem Keep23.of_keepR {w w1 : World} {g : Nat} (h : KeepR w w1 g) {cs : Array Value} {t : TypeId} (hg : w.heap[g]? = some (.cells cs t (0, 0))) (ht : t ≠ 23) : Keep23 w w1 := ⟨h.size, fun j cs' hj => h.keep j cs' 23 hj (by decide) (fun e => by subst e; rw [hj] at hg; injection hg with hg; injection hg with _ hg _; exact ht hg.symm)⟩
def Pt (n : Nat) (w : World) (v : Value) (xs : List S23) : Prop := FV k23 23 n w v xs
theorem Pt.keep {n : Nat} {w w1 : World} {v : Value} {xs : List S23} (h : Pt n w v xs) (hk : Keep23 w w1) : Pt n w1 v xs := by
  refine ⟨Kd.V_mono (Kd.V_step h.1 (fun k ho hlt => ?_)) (fun k ho => ?_), h.2⟩
  · obtain ⟨_, cs, hc⟩ := ho
    rw [hc]
    exact hk.keep k cs hc
  · obtain ⟨h1, cs, hc⟩ := ho
    exact ⟨h1, cs, hk.keep k cs hc⟩
theorem Pt.slice {n : Nat} {w : World} {v : Value} {xs : List S23} (h : Pt n w v xs) : ∃ A, v = .slice A xs.length xs.length ∧ Kd.C k23 w A xs.length xs := by
  obtain ⟨hv, A, rfl⟩ := h
  have := Kd.V_reads' hv
  exact ⟨A, rfl, this.2.2⟩
structure Net (w0 ws : World) (B gs gr : Nat) (s : Sn) (r : Rn) (w : World) : Prop where
  snd : AtP ws w gs s
  sb : Below ws.heap.size ws w
  rcv : RcvAt B gr r w
  bb : ws.heap.size ≤ B
  bw : B ≤ w.heap.size
  b0 : w0.heap.size ≤ ws.heap.size
  base : Below w0.heap.size w0 w
theorem Net.ne {w0 ws : World} {B gs gr : Nat} {s : Sn} {r : Rn} {w : World} (h : Net w0 ws B gs gr s r w) : gs ≠ gr := by
  obtain ⟨A4, c4, h1, _⟩ := h.snd
  obtain ⟨v, h2, _⟩ := h.rcv
  exact blk_ne h1 h2 (by decide)
theorem Net.below {w0 ws : World} {B gs gr : Nat} {s : Sn} {r : Rn} {w w1 : World} (h : Net w0 ws B gs gr s r w) (hb : Below w.heap.size w w1) : Net w0 ws B gs gr s r w1 :=
  ⟨h.snd.below hb, h.sb.trans (hb.mono h.sb.size), h.rcv.below hb, h.bb, Nat.le_trans h.bw hb.size, h.b0, below_step h.base hb⟩
theorem Net.rcall {w0 ws : World} {B gs gr : Nat} {s : Sn} {r : Rn} {w w1 : World} {x : List S23 × Rn} {e : Ending} (h : Net w0 ws B gs gr s r w) (hp : RcvPost B w gr x e w1) : ∃ v : Value, e = .returned v ∧ Pt w.heap.size w1 v x.1 ∧ Net w0 ws B gs gr s x.2 w1 ∧ Keep23 w w1 := by
  obtain ⟨v, he, hv, hr, hb, hk⟩ := hp
  have hne := h.ne
  obtain ⟨A4, c4, h1, h2, h3⟩ := h.snd
  obtain ⟨u, h4, _⟩ := h.rcv
  exact ⟨v, he, hv, ⟨⟨A4, c4, hk.keep gs _ 110 h1 (by decide) hne, h2, h3⟩, h.sb.trans (hb.mono h.bb), hr, h.bb, Nat.le_trans h.bw hk.size, h.b0, h.base.trans (hb.mono (Nat.le_trans h.b0 h.bb))⟩, Keep23.of_keepR hk h4 (by decide)⟩
theorem Net.scall {w0 ws : World} {B gs gr : Nat} {s : Sn} {r : Rn} {w w1 : World} {x : List S23 × Sn} {e : Ending} (h : Net w0 ws B gs gr s r w) (hp : PPost ws w gs x e w1) : ∃ v : Value, e = .returned v ∧ Pt w.heap.size w1 v x.1 ∧ Net w0 ws B gs gr x.2 r w1 ∧ Keep23 w w1 := by
  obtain ⟨v, he, hv, hs, hb, hk⟩ := hp
  have hne := h.ne
  obtain ⟨A4, c4, h1, h2, h3⟩ := h.snd
  exact ⟨v, he, hv, ⟨hs, hb, h.rcv.keepBut hk (Ne.symm hne) h1 (by decide), h.bb, Nat.le_trans h.bw hk.1, h.b0, ⟨hb.os.trans (h.sb.os.symm.trans h.base.os), hb.tape.trans (h.sb.tape.symm.trans h.base.tape), hb.output.trans (h.sb.output.symm.trans h.base.output), Nat.le_trans h.base.size hk.1, fun k hk0 => (hb.block k (Nat.lt_of_lt_of_le hk0 h.b0)).trans ((h.sb.block k (Nat.lt_of_lt_of_le hk0 h.b0)).symm.trans (h.base.block k hk0))⟩⟩, Keep23.of_keepBut hk h1 (by decide)⟩
end Go.Proofs.YtbgabhknmpbgiaaDoor.S
end
